/- Texts of this claim's proof, put together: HB HG HI HP; conditions: as each states. -/
import Derived.WalkLawsBesides
import Derived.OneCell
import Derived.Lib.Hide
import Derived.Outline
import Derived.Test.YtjcipbdocbomjaaGreatDoorZ1
import Derived.Test.YtjcipbdocbomjaaGreatDoorZ3
import Derived.Deep.RegionWith
set_option linter.unusedVariables false
set_option linter.unusedSimpArgs false
open Go.RowKit Go.Proofs.YtjcipbdocbomjaaGreatDoorW.PrintWords Go.Proofs.YtjcipbdocbomjaaGreatDoorW.PrintLast Go.Proofs.YtjcipbdocbomjaaGreatDoorW.PrintMore
namespace Go.Proofs.YtjcipbdocbomjaaGreatDoor.K
theorem sizeBuilder : (Tryz.prog.info? 53).map (·.size) = some 2 := by kernel_rfl
theorem liesBuilder : liesAt Tryz.prog Tryz.prog.depth 53 (2 / Tryz.prog.cellsOf 53) 0 53 1 = true := by kernel_rfl
theorem infoByte : (Tryz.prog.info? 5).map (fun i => (i.zero, i.size, i.bytes)) = some (some (.int .u8 0), 1, 1) := by kernel_rfl
set_option maxHeartbeats 1000000 in
set_option maxRecDepth 100000 in
theorem copyCheck_used (b : Nat) (w : World) (h0 : w.cell? ⟨b, 0, none⟩ = some (.pointer (some ⟨b, 0, none⟩))) :
  Calls Tryz.prog 50 #[.pointer (some ⟨b, 0, none⟩)] w fun e w' => e = .returned (.tuple #[]) ∧ w' = w := by
 obtain ⟨j, hj, _⟩ := Option.map_eq_some_iff.1 sizeBuilder
 go_enter Tryz.func50, Tryz.ntmps50
 go_wp2
 rw [Lib.run_neq_ptr_same w _ Tryz.underlying50 hj]
 go_wp2
 go_end0
 exact ⟨rfl, rfl⟩
set_option maxHeartbeats 1000000 in
set_option maxRecDepth 100000 in
theorem copyCheck_fresh (b : Nat) (w : World) (h0 : w.cell? ⟨b, 0, none⟩ = some (.pointer none)) (hsh : w.shape? b = some (53, 2)) (hfz : w.frozen? ⟨b, 0, none⟩ = false) :
  Calls Tryz.prog 50 #[.pointer (some ⟨b, 0, none⟩)] w fun e w' => e = .returned (.tuple #[]) ∧ w' = w.setCell ⟨b, 0, none⟩ (.pointer (some ⟨b, 0, none⟩)) := by
 obtain ⟨j, hj, hjs⟩ := Option.map_eq_some_iff.1 sizeBuilder
 go_enter Tryz.func50, Tryz.ntmps50
 go_wp2
 rw [Lib.run_to_unsafe w ⟨b, 0, none⟩ Tryz.underlying50 Tryz.underlying84 hj (by rw [hjs]; decide) hsh (Nat.zero_lt_succ 1)]
 simp only [Result.andThen]
 rw [Oper.upon_value]
 go_wp2
 rw [run_callFunc_extern Tryz.func67 (by kernel_rfl) (by kernel_rfl) (by kernel_rfl) (e := Extern.AbiNoEscape.same) (by kernel_rfl)]
 rw [Lib.run_noEscape]
 simp only [Result.andThen]
 rw [Oper.upon_value]
 go_wp2
 rw [Lib.run_from_unsafe w ⟨b, 0, none⟩ Tryz.underlying84 Tryz.underlying50 hj hsh liesBuilder]
 simp only [Result.andThen]
 rw [Oper.upon_value]
 go_wp2
 go_end0
 exact ⟨rfl, rfl⟩
def KeepsT (w w' : World) (b : Nat) : Prop := ∀ k cs t fr, k ≠ b → t ≠ 5 → w.heap[k]? = some (.cells cs t fr) → w'.heap[k]? = some (.cells cs t fr)
theorem KeepsT.refl (w : World) (b : Nat) : KeepsT w w b := fun _ _ _ _ _ _ h => h
theorem KeepsT.setCell {w w' : World} {b : Nat} (h : KeepsT w w' b) (p : Addr) (hp : p.block = b) (u : Value) : KeepsT w (w'.setCell p u) b := fun k cs t fr hk ht e => (Below.heap_setCell w' p u k (by rw [hp]; exact hk)).trans (h k cs t fr hk ht e)
theorem copyCheck_any (B b : Nat) (bs : List Value) (w : World) (h : Lib.IsBuilder 53 5 B b bs w) :
  Calls Tryz.prog 50 #[.pointer (some ⟨b, 0, none⟩)] w fun e w' => e = .returned (.tuple #[]) ∧ (Lib.BuilderAt 53 5 B b (.pointer (some ⟨b, 0, none⟩)) bs w' ∧ Below B w w' ∧ KeepsT w w' b) := by
 rcases h with h | h
 ·refine (copyCheck_fresh b w h.cell0 h.shape h.frozen0).mono ?_
  rintro e w' ⟨rfl, rfl⟩
  exact ⟨rfl, h.used _, (Below.refl B w).setCell (p := ⟨b, 0, none⟩) h.1 _, (KeepsT.refl w b).setCell ⟨b, 0, none⟩ rfl _⟩
 ·refine (copyCheck_used b w h.cell0).mono ?_
  rintro e w' ⟨rfl, rfl⟩
  exact ⟨rfl, h, Below.refl B _, KeepsT.refl _ _⟩
set_option maxHeartbeats 2000000 in
set_option maxRecDepth 100000 in
theorem writeString2 (B b : Nat) (bs : List Value) (s : ByteArray) (w : World) (h : Lib.IsBuilder 53 5 B b bs w) (hlen : bs.length + s.size ≤ 140737488355328) (hBw : B ≤ w.heap.size) :
  Calls Tryz.prog 26 #[.pointer (some ⟨b, 0, none⟩), .string s] w fun e w' => e = .returned (.tuple #[.int .i64 s.size, .nilIface]) ∧ (Lib.BuilderAt 53 5 B b (.pointer (some ⟨b, 0, none⟩)) (bs ++ Lib.strCells s) w' ∧ Below B w w' ∧ KeepsT w w' b) := by
 obtain ⟨i0, hi, hz0, hz1, hz2⟩ := info_parts infoByte
 go_enter Tryz.func26, Tryz.ntmps26
 go_wp2_with (go_at_call 50; refine (copyCheck_any B b bs _ h).mono ?_)
 rintro e w1 ⟨rfl, h1, hb1, hk1⟩
 obtain ⟨hB, v, hbk, hown, hne⟩ := h1
 have c0 : w1.cell? ⟨b, 0, none⟩ = some (.pointer (some ⟨b, 0, none⟩)) := by rw [Lib.cell_of_heap hbk]; rfl
 have c1 : w1.cell? ⟨b, 1, none⟩ = some v := by rw [Lib.cell_of_heap hbk]; rfl
 go_wp2_with (at_builtin; refine Lib.wpList_append_own_string _ rfl _ _ 51 9 rfl B 5 i0 Tryz.underlying51 Tryz.underlying9 hi hz0 hz1 hz2 _ _ _ rfl hown s rfl ?c3 ?c4 ?c5 ?_)
 case c3 => unfold maxLen; omega
 case c4 => omega
 case c5 => have := hb1.size; omega
 intro v' w2 hown' hgrow _
 have hlt : b < w1.heap.size := by
  rcases Nat.lt_or_ge b w1.heap.size with h' | h'
  ·exact h'
  ·simp [Array.getElem?_eq_none h'] at hbk
 have hb2 : w2.heap[b]? = some (.cells #[.pointer (some ⟨b, 0, none⟩), v] 53 (0, 0)) := by
  rw [hgrow.block b hlt (fun e => hne e.symm)]
  exact hbk
 have d0 : w2.cell? ⟨b, 0, none⟩ = some (.pointer (some ⟨b, 0, none⟩)) := by rw [Lib.cell_of_heap hb2]; rfl
 have d1 : w2.cell? ⟨b, 1, none⟩ = some v := by rw [Lib.cell_of_heap hb2]; rfl
 have f1 : w2.frozen? ⟨b, 1, none⟩ = false := Lib.frozen_of_heap hb2 1
 obtain ⟨ao, n', cap, rfl⟩ : ∃ ao n' cap, v' = .slice ao n' cap := by
  rcases hown'.2 with ⟨hv, _⟩ | ⟨g, cap, cur, hv, _⟩
  ·exact ⟨_, _, _, hv⟩
  ·exact ⟨_, _, _, hv⟩
 go_wp2
 go_ret2
 refine ⟨rfl, ?_, ?_, ?_⟩
 ·exact Lib.BuilderAt.put (T := 53) (e := 5) hB hb2 (bs' := bs ++ Lib.strCells s) (by simpa [Lib.strCells_length] using hown') (by decide)
 ·exact (hb1.grown hgrow (by have := hb1.size; omega) (fun k hk => (hown.lt k hk).1)).setCell (p := ⟨b, 1, none⟩) hB _
 ·refine KeepsT.setCell (fun k cs t fr hk ht e => ?_) ⟨b, 1, none⟩ rfl _
  have e1 := hk1 k cs t fr hk ht e
  have hlt : k < w1.heap.size := by
   rcases Nat.lt_or_ge k w1.heap.size with h' | h'
   ·exact h'
   ·simp [Array.getElem?_eq_none h'] at e1
  rw [hgrow.block k hlt (fun e2 => ?_)]
  ·exact e1
  ·obtain ⟨cells, hc⟩ := own_typed hown k e2.symm
   rw [hc] at e1
   injection e1 with e1
   injection e1 with _ e1
   exact ht e1.symm
theorem writeString (B b : Nat) (bs : List Value) (s : ByteArray) (w : World) (h : Lib.IsBuilder 53 5 B b bs w) (hlen : bs.length + s.size ≤ 140737488355328) (hBw : B ≤ w.heap.size) :
  Calls Tryz.prog 26 #[.pointer (some ⟨b, 0, none⟩), .string s] w fun e w' => e = .returned (.tuple #[.int .i64 s.size, .nilIface]) ∧ (Lib.BuilderAt 53 5 B b (.pointer (some ⟨b, 0, none⟩)) (bs ++ Lib.strCells s) w' ∧ Below B w w') :=
 (writeString2 B b bs s w h hlen hBw).mono fun e w' ⟨h1, h2, h3, _⟩ => ⟨h1, h2, h3⟩
theorem builder_below {B b : Nat} {bs : List Value} {w w1 : World} (h : Lib.IsBuilder 53 5 B b bs w) (hb : Below w.heap.size w w1) : Lib.IsBuilder 53 5 B b bs w1 := by
 have step : ∀ p, Lib.BuilderAt 53 5 B b p bs w → Lib.BuilderAt 53 5 B b p bs w1 := by
  rintro p ⟨hB, v, hbk, hown, hne⟩
  have hlt := lt_of_block hbk
  exact ⟨hB, v, by rw [hb.block b hlt]; exact hbk, own_move hown (fun k hk => hb.block k (own_lt hown k hk)), hne⟩
 exact h.imp (step _) (step _)
end Go.Proofs.YtjcipbdocbomjaaGreatDoor.K
namespace Go.Proofs.YtjcipbdocbomjaaGreatDoor.K
def textP (x : S33) : List UInt8 :=
 if x.f0.toList = ([116, 104, 105, 115] : List UInt8) then [116, 104, 105, 115]
 else if x.f0.toList = ([114, 101, 108] : List UInt8) then x.f1.data.toList
 else if x.f0.toList = ([102, 114, 111, 109] : List UInt8) then [40, 102, 114, 111, 109, 32] ++ x.f2.data.toList ++ [32] ++ x.f1.data.toList ++ [41]
 else [40] ++ x.f0.data.toList ++ (x.f3.attach.flatMap fun y => 32 :: textP y.1) ++ [41]
 termination_by SizeOf.sizeOf x
 decreasing_by exact S33.lt_of_mem y.2
def partsP (l : List S33) : List UInt8 := l.flatMap fun y => 32 :: textP y
theorem textP_eq (x : S33) : textP x =
 if x.f0.toList = ([116, 104, 105, 115] : List UInt8) then [116, 104, 105, 115]
 else if x.f0.toList = ([114, 101, 108] : List UInt8) then x.f1.data.toList
 else if x.f0.toList = ([102, 114, 111, 109] : List UInt8) then [40, 102, 114, 111, 109, 32] ++ x.f2.data.toList ++ [32] ++ x.f1.data.toList ++ [41]
 else [40] ++ x.f0.data.toList ++ partsP x.f3 ++ [41] := by
 rw [textP]
 have : (x.f3.attach.flatMap fun y => 32 :: textP y.1) = partsP x.f3 := by
  have h := List.flatMap_map Subtype.val (fun y => 32 :: textP y) (l := x.f3.attach)
  rw [List.attach_map_subtype_val] at h
  exact h.symm
 rw [this]
theorem partsP_cons (y : S33) (l : List S33) : partsP (y :: l) = 32 :: textP y ++ partsP l := rfl
theorem partsP_append (l m : List S33) : partsP (l ++ m) = partsP l ++ partsP m := by simp [partsP]
theorem partsP_mem {y : S33} {l : List S33} (h : y ∈ l) : (textP y).length < (partsP l).length := by
 induction l with
 | nil => cases h
 | cons z l ih =>
  rw [partsP_cons]
  simp only [List.length_append, List.length_cons]
  rcases List.mem_cons.1 h with rfl | h
  ·omega
  ·have := ih h; omega
theorem mk_of (b : ByteArray) : (⟨b.data.toList.toArray⟩ : ByteArray) = b := by simp
theorem dlen (b : ByteArray) : b.data.toList.length = b.size := Array.length_toList
theorem app_data (a b : ByteArray) : (a ++ b).data.toList = a.data.toList ++ b.data.toList := by rw [ByteArray.data_append, Array.toList_append]
set_option maxHeartbeats 4000000 in
set_option maxRecDepth 100000 in
theorem text_any (n : Nat) : ∀ (x : S33) (A1 : Option Addr) (c1 : Nat) (w : World), SizeOf.sizeOf x < n → smallE x = true → (textP x).length ≤ 1099511627776 → x.f3.length ≤ c1 → k33.C w A1 x.f3.length x.f3 →
  Calls Tryz.prog 27 #[.agg #[.string x.f0, .string x.f1, .string x.f2, .slice A1 x.f3.length c1]] w fun e w' => e = .returned (.string ⟨(textP x).toArray⟩) ∧ Below w.heap.size w w' := by
 induction n with
 | zero => intro x _ _ _ h; omega
 | succ n ih =>
  intro x A1 c1 w hn hs ht hl hC
  have he := textP_eq x
  by_cases h1 : x.f0.toList = ([116, 104, 105, 115] : List UInt8)
  ·rw [if_pos h1] at he
   rw [he]
   have h1' : (x.f0.toList == ([116, 104, 105, 115] : List UInt8)) = true := by simpa using h1
   clear hC ih he ht hs hn h1
   go_enter Tryz.func27, Tryz.ntmps27
   go_wp2
   go_ret
   exact ⟨rfl, below_alloc (Below.refl _ _) _⟩
  ·have h1' : (x.f0.toList == ([116, 104, 105, 115] : List UInt8)) = false := by simpa using h1
   rw [if_neg h1] at he
   by_cases h2 : x.f0.toList = ([114, 101, 108] : List UInt8)
   ·rw [if_pos h2] at he
    rw [he]
    have h2' : (x.f0.toList == ([114, 101, 108] : List UInt8)) = true := by simpa using h2
    clear hC ih he ht hs hn h1 h2
    go_enter Tryz.func27, Tryz.ntmps27
    go_wp2
    go_ret
    exact ⟨by rw [mk_of]; rfl, below_alloc (Below.refl _ _) _⟩
   ·have h2' : (x.f0.toList == ([114, 101, 108] : List UInt8)) = false := by simpa using h2
    rw [if_neg h2] at he
    by_cases h3 : x.f0.toList = ([102, 114, 111, 109] : List UInt8)
    ·rw [if_pos h3] at he
     have h3' : (x.f0.toList == ([102, 114, 111, 109] : List UInt8)) = true := by simpa using h3
     have htt := ht
     rw [he] at htt
     simp only [List.length_append, List.length_cons, List.length_nil, dlen] at htt
     have hres : (⟨(textP x).toArray⟩ : ByteArray) = ((((⟨#[40, 102, 114, 111, 109, 32]⟩ : ByteArray) ++ x.f2) ++ (⟨#[32]⟩ : ByteArray)) ++ x.f1) ++ (⟨#[41]⟩ : ByteArray) := by
      rw [he, ← mk_of (_ ++ (⟨#[41]⟩ : ByteArray))]
      rw [app_data, app_data, app_data, app_data]
     rw [hres]
     have e1 : 6 + x.f2.size ≤ 9223372036854775807 := by omega
     have e2 : 6 + x.f2.size + 1 ≤ 9223372036854775807 := by omega
     have e3 : 6 + x.f2.size + 1 + x.f1.size ≤ 9223372036854775807 := by omega
     have e4 : 6 + x.f2.size + 1 + x.f1.size + 1 ≤ 9223372036854775807 := by omega
     clear hC ih he ht hs hn h1 h2 h3 htt hres
     go_enter Tryz.func27, Tryz.ntmps27
     go_wp2
     go_ret
     exact ⟨rfl, below_alloc (Below.refl _ _) _⟩
    ·have h3' : (x.f0.toList == ([102, 114, 111, 109] : List UInt8)) = false := by simpa using h3
     rw [if_neg h3] at he
     have htt := ht
     rw [he] at htt
     simp only [List.length_append, List.length_cons, List.length_nil, dlen] at htt
     have key : ∀ (W : World) (y : S33) (A2 : Option Addr) (c2 : Nat), y ∈ x.f3 → y.f3.length ≤ c2 → k33.C W A2 y.f3.length y.f3 → Calls Tryz.prog 27 #[.agg #[.string y.f0, .string y.f1, .string y.f2, .slice A2 y.f3.length c2]] W fun e w' => e = .returned (.string ⟨(textP y).toArray⟩) ∧ Below W.heap.size W w' := by
      intro W y A2 c2 hy hl2 hC2
      exact ih y A2 c2 W (by have := S33.lt_of_mem hy; omega) (smallE_mem hs hy) (by have := partsP_mem hy; omega) hl2 hC2
     have hm := smallE_len hs
     have HC := Aside0.mk hC
     have HE := Aside0.mk he
     have HT := Aside0.mk htt
     have HH := Aside0.mk (show (⟨#[40]⟩ ++ x.f0 : ByteArray).data.toList = [40] ++ x.f0.data.toList from app_data _ _)
     have e1 : 1 + x.f0.size ≤ 9223372036854775807 := by omega
     clear hC ih he ht hs hn h1 h2 h3 htt
     go_enter Tryz.func27, Tryz.ntmps27
     have hbox := blk_first w (.cells #[.string x.f0, .string x.f1, .string x.f2, .slice A1 x.f3.length c1] 33 (0, 0)) (.cells #[.pointer none, .slice none 0 0] 53 (0, 0))
     have hfr := Lib.fresh_isBuilder 53 5 (w.alloc (.cells #[.string x.f0, .string x.f1, .string x.f2, .slice A1 x.f3.length c1] 33 (0, 0)))
     rw [alloc_size] at hfr
     have hbt := below_two w (.cells #[.string x.f0, .string x.f1, .string x.f2, .slice A1 x.f3.length c1] 33 (0, 0)) (.cells #[.pointer none, .slice none 0 0] 53 (0, 0))
     have hsz : (Lib.byteCells []).length + (⟨#[40]⟩ ++ x.f0 : ByteArray).size ≤ 140737488355328 := by
      rw [Lib.byteCells_length, ← dlen, HH.out]; simp only [List.length_append, List.length_cons, List.length_nil, dlen]; have := HT.out; omega
     have hWS := writeString (w.heap.size + 1) (w.heap.size + 1) (Lib.byteCells []) (⟨#[40]⟩ ++ x.f0) ((w.alloc (.cells #[.string x.f0, .string x.f1, .string x.f2, .slice A1 x.f3.length c1] 33 (0, 0))).alloc (.cells #[.pointer none, .slice none 0 0] 53 (0, 0))) hfr hsz (by rw [alloc_size, alloc_size]; omega)
     clear hsz hfr
     go_wp2_with fail
     refine hWS.mono ?_
     rintro e w1 ⟨rfl, h3, hb3⟩
     have hf1 := (hb3.block w.heap.size (by omega)).trans hbox
     have hq3 : w1.cell? ⟨w.heap.size, 3, none⟩ = some (.slice A1 x.f3.length c1) := blk_cell hf1 3
     rw [Lib.strCells_eq, HH.out, ← Lib.byteCells_append] at h3
     have H1 : Aside0 (Lib.IsBuilder 53 5 (w.heap.size + 1) (w.heap.size + 1) (Lib.byteCells ([40] ++ x.f0.data.toList ++ partsP (x.f3.take 0))) w1) := ⟨by
      have h : Lib.IsBuilder 53 5 (w.heap.size + 1) (w.heap.size + 1) _ w1 := Or.inr h3; rw [List.nil_append] at h; rw [List.take_zero, show partsP [] = [] from rfl, List.append_nil]; exact h⟩
     have Hb1 := Aside0.mk (hbt.trans (hb3.mono (by omega)))
     have Hs1 : w.heap.size + 1 ≤ w1.heap.size := Nat.le_trans (by rw [alloc_size, alloc_size]; omega) hb3.size
     clear h3 hb3 hf1 hbox hbt hWS
     go_wp2_with fail
     go_loopg [31] x.f3.length (fun g s31 wx => ∃ (i : Nat), s31 = .int .i64 i ∧ i + g = x.f3.length ∧
       Aside0 (Lib.IsBuilder 53 5 (w.heap.size + 1) (w.heap.size + 1) (Lib.byteCells ([40] ++ x.f0.data.toList ++ partsP (x.f3.take i))) wx) ∧ Aside0 (Below w.heap.size w wx) ∧ Aside0 (w.heap.size + 1 ≤ wx.heap.size))
     case atStart => exact ⟨0, rfl, by omega, H1, Hb1, ⟨Hs1⟩⟩
     case round =>
      clear H1 Hb1 Hs1
      obtain ⟨i, rfl, hig, HB, HW, HS⟩ := hrel
      cases gk with
      | zero =>
       have hiK : ¬ ((i : Int) < (x.f3.length : Int)) := by omega
       have hB2 := HB.out
       rw [List.take_of_length_le (by omega)] at hB2
       obtain ⟨S, hS⟩ : ∃ S : ByteArray, (⟨([40] ++ x.f0.data.toList ++ partsP x.f3).toArray⟩ : ByteArray) = S := ⟨_, rfl⟩
       have hres : (⟨(textP x).toArray⟩ : ByteArray) = S ++ (⟨#[41]⟩ : ByteArray) := by
        rw [HE.out, ← mk_of (S ++ (⟨#[41]⟩ : ByteArray)), app_data, ← hS]
       have hz : S.size + 1 ≤ 9223372036854775807 := by
        rw [← hS, ← dlen]; simp only [List.length_append, List.length_cons, List.length_nil, dlen]; have := HT.out; omega
       have kS := Tryz.Builder_String_any (w.heap.size + 1) (w.heap.size + 1) _ wr hB2 HS.out
       rw [hS] at kS
       have HR := Aside0.mk hres
       clear hres hB2 hS
       go_wp2_with fail
       refine kS.mono ?_
       rintro e w5 ⟨rfl, hb5⟩
       have Hb5 := Aside0.mk (HW.out.trans (hb5.mono (by omega)))
       clear hb5 kS
       go_wp2
       go_ret
       exact ⟨by rw [HR.out]; rfl, Hb5.out⟩
      | succ g =>
       have hlt : i < x.f3.length := by omega
       have hiK : (i : Int) < (x.f3.length : Int) := by omega
       have hi0 : (0 : Int) ≤ (i : Int) := by omega
       obtain ⟨y, hy⟩ : ∃ y, x.f3[i] = y := ⟨_, rfl⟩
       have hel : rd_T33 x.f3 (i : Int) = y := (rd_some z33 x.f3 i hlt).trans hy
       have hmy : y ∈ x.f3 := hy ▸ List.getElem_mem hlt
       obtain ⟨ad, A2, c2, rfl, hx0, hx1, hx2, hx3, hl2, hg2⟩ := at_T33 (Kd.C_below HC.out HW.out) (i : Int) hi0 hiK
       rw [hel] at hx0 hx1 hx2 hx3 hl2 hg2
       rw [Int.toNat_natCast] at hx0 hx1 hx2 hx3
       have hpl : (partsP (x.f3.take i)).length + (1 + (textP y).length) ≤ (partsP x.f3).length := by
        conv => rhs; rw [← List.take_append_drop i x.f3, List.drop_eq_getElem_cons hlt, hy, partsP_append, partsP_cons]
        simp only [List.length_append, List.length_cons]; omega
       have htk : partsP (x.f3.take (i + 1)) = partsP (x.f3.take i) ++ (32 :: textP y) := by
        rw [List.take_succ_eq_append_getElem hlt, hy, partsP_append, partsP_cons, show partsP [] = [] from rfl, List.append_nil]
       have k1 := key (wr.alloc (.cells #[.string y.f0, .string y.f1, .string y.f2, .slice A2 y.f3.length c2] 33 (0, 0))) y A2 c2 hmy hl2 (Kd.C_below hg2 (below_alloc (Below.refl _ _) _))
       obtain ⟨T, hT⟩ : ∃ T : ByteArray, (⟨(textP y).toArray⟩ : ByteArray) = T := ⟨_, rfl⟩
       have hts : T.size = (textP y).length := by rw [← hT, ← dlen]
       have e2 : 1 + T.size ≤ 9223372036854775807 := by rw [hts]; have := HT.out; omega
       have hd := Aside0.mk (show (⟨#[32]⟩ ++ T : ByteArray).data.toList = 32 :: textP y by rw [app_data, ← hT]; rfl)
       rw [hT] at k1
       have hal := below_alloc (Below.refl wr.heap.size wr) (.cells #[.string y.f0, .string y.f1, .string y.f2, .slice A2 y.f3.length c2] 33 (0, 0))
       have HK := Aside0.mk htk
       have HP := Aside0.mk hpl
       have HTS := Aside0.mk hts
       clear hel hy hg2 htk hpl hts hT
       go_wp2_with (go_at_call 27; refine k1.mono ?_; rintro e w2 ⟨rfl, hb2⟩)
       have H2 : Lib.IsBuilder 53 5 (w.heap.size + 1) (w.heap.size + 1) _ w2 := builder_below HB.out (hal.trans (hb2.mono (by rw [alloc_size]; omega)))
       have hW2 : Below w.heap.size w w2 := HW.out.trans ((hal.trans (hb2.mono (by rw [alloc_size]; omega))).mono HW.out.size)
       have hS2 : w.heap.size + 1 ≤ w2.heap.size := Nat.le_trans HS.out (Nat.le_trans (Nat.le_of_lt (by rw [alloc_size]; omega)) hb2.size)
       refine (writeString (w.heap.size + 1) (w.heap.size + 1) _ _ w2 H2 (by rw [Lib.byteCells_length, ← dlen, hd.out]; simp only [List.length_append, List.length_cons, List.length_nil, dlen]; have := HT.out; have := HP.out; omega) hS2).mono ?_
       rintro e w3 ⟨rfl, h3, hb3⟩
       rw [Lib.strCells_eq, hd.out, ← Lib.byteCells_append, List.append_assoc, ← HK.out] at h3
       have H3 : Aside0 (Lib.IsBuilder 53 5 (w.heap.size + 1) (w.heap.size + 1) _ w3) := ⟨Or.inr h3⟩
       have Hb3 := Aside0.mk (hW2.trans (hb3.mono (by omega)))
       have Hs3 := Aside0.mk (Nat.le_trans hS2 hb3.size)
       clear h3 hb3 H2 hW2 hS2 hb2
       go_wp2
       go_roundg g
       case measure => omega
       case rel => exact ⟨i + 1, by (rfl), by omega, H3, Hb3, Hs3⟩
end Go.Proofs.YtjcipbdocbomjaaGreatDoor.K
namespace Go.Proofs.YtjcipbdocbomjaaGreatDoor.K
def ruleL (r : S35) : List UInt8 := r.f0.data.toList ++ [32, 61, 32] ++ textP r.f1 ++ [10]
def rulesL (rs : List S35) : List UInt8 := rs.flatMap ruleL
def kindL (k : S30) : List UInt8 := [107, 105, 110, 100, 32] ++ k.f0.data.toList ++ [10]
def showL (l : List S30) : List UInt8 := l.flatMap fun k => kindL k ++ rulesL k.f1
theorem rulesL_take {rs : List S35} {i : Nat} (h : i < rs.length) : rulesL (rs.take (i + 1)) = rulesL (rs.take i) ++ ruleL rs[i] := by
 rw [List.take_succ_eq_append_getElem h]; unfold rulesL; rw [List.flatMap_append, List.flatMap_cons, List.flatMap_nil, List.append_nil]
theorem showL_take {l : List S30} {i : Nat} (h : i < l.length) : showL (l.take (i + 1)) = showL (l.take i) ++ (kindL l[i] ++ rulesL l[i].f1) := by
 rw [List.take_succ_eq_append_getElem h]; unfold showL; rw [List.flatMap_append, List.flatMap_cons, List.flatMap_nil, List.append_nil]
theorem rulesL_len {rs : List S35} {i : Nat} (h : i < rs.length) : (rulesL (rs.take i)).length + (ruleL rs[i]).length ≤ (rulesL rs).length := by
 conv => rhs; rw [← List.take_append_drop (i + 1) rs]
 rw [show rulesL (rs.take (i + 1) ++ rs.drop (i + 1)) = rulesL (rs.take (i + 1)) ++ rulesL (rs.drop (i + 1)) from List.flatMap_append, rulesL_take h]
 simp only [List.length_append]; omega
theorem showL_len {l : List S30} {i : Nat} (h : i < l.length) : (showL (l.take i)).length + ((kindL l[i]).length + (rulesL l[i].f1).length) ≤ (showL l).length := by
 conv => rhs; rw [← List.take_append_drop (i + 1) l]
 rw [show showL (l.take (i + 1) ++ l.drop (i + 1)) = showL (l.take (i + 1)) ++ showL (l.drop (i + 1)) from List.flatMap_append, showL_take h]
 simp only [List.length_append]; omega
def rule_Show.f (l0 : List S30) : Option (ByteArray × Int) :=
 if smallL l0 = true ∧ (checkP l0 = 0 → (showL l0).length ≤ 1099511627776) then some (if checkP l0 = 0 then (⟨(showL l0).toArray⟩, 0) else (⟨#[]⟩, checkP l0)) else none
set_option maxHeartbeats 4000000 in
set_option maxRecDepth 100000 in
theorem show_any (A0 : Option Addr) (c0 : Nat) (l : List S30) (w : World) (hr0 : Kd.C k30 w A0 l.length l) (hc0 : l.length ≤ c0) (hs : smallL l = true) (hk : checkP l = 0) (ht : (showL l).length ≤ 1099511627776) (hw : WordsIn w) :
  Calls Tryz.prog 11 #[.slice A0 l.length c0] w fun e w' => e = .returned (.tuple #[.string ⟨(showL l).toArray⟩, .int .i64 0]) ∧ Below w.heap.size w w' := by
 have hC : Calls Tryz.prog 22 #[.slice A0 l.length c0] w fun e w' => e = .returned (.int .i64 0) ∧ Below w.heap.size w w' :=
  rule_Check.calls A0 c0 l 0 w hr0 hc0 (by unfold rule_Check.f; rw [if_pos hs, hk]) hw
 have HR := Aside0.mk hr0
 have HS := Aside0.mk hs
 have HT := Aside0.mk ht
 have hm := smallL_len hs
 clear hr0 hc0 hs hk ht hw
 go_enter Tryz.func11, Tryz.ntmps11
 go_wp2_with (go_at_call 22; refine hC.mono ?_; rintro e w0 ⟨rfl, hb0⟩)
 have hB0 := Nat.le_refl w0.heap.size
 go_loopg [17] l.length (fun g s17 wx => ∃ (i : Nat), s17 = .int .i64 i ∧ i + g = l.length ∧
   Aside0 (Lib.IsBuilder 53 5 w0.heap.size w0.heap.size (Lib.byteCells (showL (l.take i))) wx) ∧ Aside0 (Below w0.heap.size w0 wx) ∧ Aside0 (Below w.heap.size w wx) ∧ Aside0 (w0.heap.size + 1 ≤ wx.heap.size))
 case atStart => exact ⟨0, rfl, by omega, ⟨Lib.fresh_isBuilder 53 5 w0⟩, ⟨below_alloc (Below.refl _ _) _⟩, ⟨below_alloc hb0 _⟩, ⟨by rw [alloc_size]; omega⟩⟩
 case round =>
  obtain ⟨i, rfl, hig, HB, HW, HV, HZ⟩ := hrel
  cases gk with
  | zero =>
   have hiK : ¬ ((i : Int) < (l.length : Int)) := by omega
   have hB2 := HB.out
   rw [List.take_of_length_le (by omega)] at hB2
   go_wp2_with fail
   refine (Tryz.Builder_String_any w0.heap.size w0.heap.size _ wr hB2 HW.out.size).mono ?_
   rintro e w5 ⟨rfl, hb5⟩
   have Hb5 := Aside0.mk (HV.out.trans (hb5.mono hb0.size))
   clear hb5 hB2
   go_wp2
   go_ret2
   exact ⟨rfl, Hb5.out⟩
  | succ g =>
   have hlt : i < l.length := by omega
   have hiK : (i : Int) < (l.length : Int) := by omega
   have hi0 : (0 : Int) ≤ (i : Int) := by omega
   obtain ⟨k, hk⟩ : ∃ k, l[i] = k := ⟨_, rfl⟩
   have hel : rd_T30 l (i : Int) = k := (rd_some z30 l i hlt).trans hk
   have hmk : k ∈ l := hk ▸ List.getElem_mem hlt
   obtain ⟨ad, A1, c1, rfl, hx0, hx1, hl1, hg1⟩ := at_T30 HR.out (i : Int) hi0 hiK
   rw [hel] at hx0 hx1 hl1 hg1
   rw [Int.toNat_natCast] at hx0 hx1
   replace hx0 := cell_keeps hx0 HV.out
   replace hx1 := cell_keeps hx1 HV.out
   have HG := Aside0.mk hg1
   have hlen := showL_len hlt
   have htk := showL_take hlt
   rw [hk] at hlen htk
   have HK := Aside0.mk htk
   have HL := Aside0.mk (show (showL (l.take i)).length + (6 + k.f0.size + (rulesL k.f1).length) ≤ 1099511627776 by
    have := HT.out; simp only [kindL, List.length_append, List.length_cons, List.length_nil, dlen] at hlen; omega)
   have hmr := smallL_rules HS.out hmk
   have HM := Aside0.mk hmk
   have e1 : 5 + k.f0.size ≤ 9223372036854775807 := by have := HL.out; omega
   have e2 : 5 + k.f0.size + 1 ≤ 9223372036854775807 := by have := HL.out; omega
   have hd := Aside0.mk (show (((⟨#[107, 105, 110, 100, 32]⟩ : ByteArray) ++ k.f0) ++ (⟨#[10]⟩ : ByteArray)).data.toList = kindL k by rw [app_data, app_data]; rfl)
   have hal := below_alloc (Below.refl wr.heap.size wr) (.cells #[.string k.f0, .slice A1 k.f1.length c1] 30 (0, 0))
   have H2 : Lib.IsBuilder 53 5 w0.heap.size w0.heap.size _ (wr.alloc (.cells #[.string k.f0, .slice A1 k.f1.length c1] 30 (0, 0))) := builder_below HB.out hal
   have hbx := blk_new wr (.cells #[.string k.f0, .slice A1 k.f1.length c1] 30 (0, 0))
   have hWS := writeString2 w0.heap.size w0.heap.size _ (((⟨#[107, 105, 110, 100, 32]⟩ : ByteArray) ++ k.f0) ++ (⟨#[10]⟩ : ByteArray)) _ H2 (by rw [Lib.byteCells_length, ← dlen, hd.out]; simp only [kindL, List.length_append, List.length_cons, List.length_nil, dlen]; have := HL.out; omega) (Nat.le_trans HW.out.size (by rw [alloc_size]; omega))
   have HA := Aside0.mk hal
   clear hel hk hg1 hlen htk hmk H2 hal
   go_wp2_with fail
   refine hWS.mono ?_
   rintro e w1 ⟨rfl, h3, hb3, hk3⟩
   have hf1 := hk3 wr.heap.size _ _ _ (by have := HZ.out; omega) (by decide) hbx
   have hq1 : w1.cell? ⟨wr.heap.size, 1, none⟩ = some (.slice A1 k.f1.length c1) := blk_cell hf1 1
   rw [Lib.strCells_eq, hd.out, ← Lib.byteCells_append] at h3
   have H1 : Aside0 (Lib.IsBuilder 53 5 w0.heap.size w0.heap.size (Lib.byteCells (showL (l.take i) ++ kindL k ++ rulesL (k.f1.take 0))) w1) := ⟨by
    have h : Lib.IsBuilder 53 5 w0.heap.size w0.heap.size _ w1 := Or.inr h3
    rw [List.take_zero, show rulesL [] = [] from rfl, List.append_nil]; exact h⟩
   have hbB : Below w0.heap.size wr w1 := (HA.out.mono HW.out.size).trans hb3
   have Hb1 := Aside0.mk (HW.out.trans hbB)
   have Hv1 := Aside0.mk (HV.out.trans (hbB.mono hb0.size))
   have Hs1 := Aside0.mk (show w0.heap.size + 1 ≤ w1.heap.size by have := HZ.out; have := hb3.size; have := blk_lt hf1; omega)
   have HG1 := Aside0.mk (show Below w.heap.size wr w1 from hbB.mono hb0.size)
   have HVR := Aside0.mk HV.out.size
   clear h3 hb3 hk3 hf1 hbB hWS hbx HA
   go_wp2_with fail
   go_loopg [29] k.f1.length (fun g s29 wx => ∃ (j : Nat), s29 = .int .i64 j ∧ j + g = k.f1.length ∧
     Aside0 (Lib.IsBuilder 53 5 w0.heap.size w0.heap.size (Lib.byteCells (showL (l.take i) ++ kindL k ++ rulesL (k.f1.take j))) wx) ∧ Aside0 (Below w0.heap.size w0 wx) ∧ Aside0 (Below w.heap.size w wx) ∧ Aside0 (w0.heap.size + 1 ≤ wx.heap.size))
   case atStart => exact ⟨0, rfl, by omega, H1, Hb1, Hv1, Hs1⟩
   case round =>
    clear H1 Hb1 Hv1 Hs1 hq1
    obtain ⟨j, rfl, hjg, HBj, HWj, HVj, HZj⟩ := hrel
    cases gk with
    | zero =>
     have hjK : ¬ ((j : Int) < (k.f1.length : Int)) := by omega
     have hB2 := HBj.out
     rw [show k.f1.take j = k.f1 from List.take_of_length_le (by omega), List.append_assoc, ← HK.out] at hB2
     have HB2 := Aside0.mk hB2
     clear hB2
     go_wp2_with fail
     go_roundg g
     case measure => omega
     case rel => exact ⟨i + 1, by (rfl), by omega, HB2, HWj, HVj, HZj⟩
    | succ g2 =>
     have hjt : j < k.f1.length := by omega
     have hjK : (j : Int) < (k.f1.length : Int) := by omega
     have hj0 : (0 : Int) ≤ (j : Int) := by omega
     obtain ⟨r, hr⟩ : ∃ r, k.f1[j] = r := ⟨_, rfl⟩
     have hel : rd_T35 k.f1 (j : Int) = r := (rd_some z35 k.f1 j hjt).trans hr
     have hmr2 : r ∈ k.f1 := hr ▸ List.getElem_mem hjt
     have hsr := smallL_expr HS.out HM.out hmr2
     obtain ⟨ad2, A2, c2, rfl, hy0, hy1, hy2, hy3, hy4, hl2, hg2⟩ := at_T35 (Kd.C_below HG.out HVj.out) (j : Int) hj0 hjK
     rw [hel] at hy0 hy1 hy2 hy3 hy4 hl2 hg2
     rw [Int.toNat_natCast] at hy0 hy1 hy2 hy3 hy4
     have hlen := rulesL_len hjt
     have htk := rulesL_take hjt
     rw [hr] at hlen htk
     have htl : (showL (l.take i)).length + (6 + k.f0.size) + (rulesL (k.f1.take j)).length + (r.f0.size + 4 + (textP r.f1).length) ≤ 1099511627776 := by
      have := HL.out; simp only [ruleL, List.length_append, List.length_cons, List.length_nil, dlen] at hlen; omega
     obtain ⟨T, hT⟩ : ∃ T : ByteArray, (⟨(textP r.f1).toArray⟩ : ByteArray) = T := ⟨_, rfl⟩
     have hts : T.size = (textP r.f1).length := by rw [← hT, ← dlen]
     have kt : ∀ (W : World), Below wr.heap.size wr W → Calls Tryz.prog 27 #[.agg #[.string r.f1.f0, .string r.f1.f1, .string r.f1.f2, .slice A2 r.f1.f3.length c2]] W fun e w' => e = .returned (.string T) ∧ Below W.heap.size W w' := by
      intro W hW
      rw [← hT]
      exact text_any (SizeOf.sizeOf r.f1 + 1) r.f1 A2 c2 W (by omega) hsr (by omega) hl2 (Kd.C_below hg2 hW)
     have hd2 : (((r.f0 ++ (⟨#[32, 61, 32]⟩ : ByteArray)) ++ T) ++ (⟨#[10]⟩ : ByteArray)).data.toList = ruleL r := by rw [app_data, app_data, app_data, ← hT]; rfl
     have kw : ∀ (W : World), Below wr.heap.size wr W → Calls Tryz.prog 26 #[.pointer (some ⟨w0.heap.size, 0, none⟩), .string (((r.f0 ++ (⟨#[32, 61, 32]⟩ : ByteArray)) ++ T) ++ (⟨#[10]⟩ : ByteArray))] W fun e w' => (∃ v, e = .returned v) ∧ (Aside0 (Lib.IsBuilder 53 5 w0.heap.size w0.heap.size (Lib.byteCells (showL (l.take i) ++ kindL k ++ rulesL (k.f1.take (j + 1)))) w') ∧ Aside0 (Below w0.heap.size w0 w') ∧ Aside0 (Below w.heap.size w w') ∧ Aside0 (w0.heap.size + 1 ≤ w'.heap.size)) := by
      intro W hW
      refine (writeString w0.heap.size w0.heap.size _ _ W (builder_below HBj.out hW) (by rw [Lib.byteCells_length, ← dlen, hd2]; simp only [kindL, ruleL, List.length_append, List.length_cons, List.length_nil, dlen]; omega) (by have := hW.size; have := HZj.out; omega)).mono ?_
      rintro e w' ⟨rfl, h3, hb3⟩
      rw [Lib.strCells_eq, hd2, ← Lib.byteCells_append, List.append_assoc, ← htk] at h3
      have hbB : Below w0.heap.size wr w' := (hW.mono (by have := HZj.out; omega)).trans hb3
      exact ⟨⟨_, rfl⟩, ⟨Or.inr h3⟩, ⟨HWj.out.trans hbB⟩, ⟨HVj.out.trans (hbB.mono hb0.size)⟩, ⟨by have := hW.size; have := hb3.size; have := HZj.out; omega⟩⟩
     have e3 : r.f0.size + 3 ≤ 9223372036854775807 := by omega
     have e4 : r.f0.size + 3 + T.size ≤ 9223372036854775807 := by omega
     have e5 : r.f0.size + 3 + T.size + 1 ≤ 9223372036854775807 := by omega
     have hbx := blk_new wr (.cells #[.string r.f0, .string r.f1.f0, .string r.f1.f1, .string r.f1.f2, .slice A2 r.f1.f3.length c2] 35 (0, 0))
     clear hlen htk htl hT hts hd2 hel hr hmr2 hsr hg2
     go_upto_region 12 with fail
     go_region_with (first | (go_at_call 27; refine (kt _ ?_).mono ?_; (repeat (first | exact Below.refl _ _ | apply below_alloc | apply pw_below_drewN)); rintro e w2 ⟨rfl, hb2⟩; have hbw := below_step (w := wr) (by repeat (first | exact Below.refl _ _ | apply below_alloc | apply pw_below_drewN)) hb2; have hf2 := blk_below (g := wr.heap.size) (by (exact hbx)) hb2; have hq0 : w2.cell? ⟨wr.heap.size, 0, none⟩ = some (.string r.f0) := blk_cell hf2 0) | (go_at_call 26; refine (kw _ ?_).mono ?_; (repeat ((exact hbw))); rintro e w3 ⟨⟨v3, rfl⟩, Q1, Q2, Q3, Q4⟩))
     all_goals (go_wp2_with fail; go_roundg g2; (case measure => omega); (case rel => exact ⟨j + 1, by (rfl), by omega, Q1, Q2, Q3, Q4⟩))
theorem rule_Show.calls (A0 : Option Addr) (c0 : Nat) (l0 : List S30) (r1 : ByteArray) (r2 : Int) (w : World) (hr0 : Kd.C k30 w A0 l0.length l0) (hc0 : l0.length ≤ c0) (h : rule_Show.f l0 = some (r1, r2)) (hw : WordsIn w) :
  Calls Tryz.prog 11 #[.slice A0 l0.length c0] w fun e w' => e = .returned (.tuple #[.string r1, .int .i64 r2]) ∧ Below w.heap.size w w' := by
 unfold rule_Show.f at h
 by_cases hs : smallL l0 = true ∧ (checkP l0 = 0 → (showL l0).length ≤ 1099511627776)
 ·rw [if_pos hs] at h
  by_cases hk : checkP l0 = 0
  ·rw [if_pos hk] at h
   injection h with h; injection h with h1 h2
   subst h1 h2
   exact show_any A0 c0 l0 w hr0 hc0 hs.1 hk (hs.2 hk) hw
  ·rw [if_neg hk] at h
   injection h with h; injection h with h1 h2
   subst h1 h2
   have hC := rule_Check.calls A0 c0 l0 (checkP l0) w hr0 hc0 (by unfold rule_Check.f; rw [if_pos hs.1]) hw
   have hn : (checkP l0 != 0) = true := by simpa using hk
   obtain ⟨q, hq⟩ : ∃ q, checkP l0 = q := ⟨_, rfl⟩
   rw [hq] at hC hn ⊢
   clear hr0 hc0 hs hk hw hq
   go_enter Tryz.func11, Tryz.ntmps11
   go_wp2_with (go_at_call 22; refine hC.mono ?_; rintro e w0 ⟨rfl, hb0⟩)
   go_ret2
   exact ⟨rfl, hb0⟩
 ·rw [if_neg hs] at h; exact absurd h (by simp)
end Go.Proofs.YtjcipbdocbomjaaGreatDoor.K
namespace Go.Proofs.YtjcipbdocbomjaaGreatDoor.K
def oddR (x : Nat) : Bool := !(((decide (97 ≤ x) && decide (x ≤ 122)) || (decide (48 ≤ x) && decide (x ≤ 57))) || decide (x = 95))
theorem word1_any (x : Nat) (hx : x ≤ 1114111) (w : World) :
  Calls Tryz.prog 70 #[.int .i32 (x : Int)] w fun e w' => e = .returned (.bool (oddR x)) ∧ Below w.heap.size w w' := by
 have d1 : decide ((x : Int) ≥ 97) = decide (97 ≤ x) := by rw [Bool.eq_iff_iff]; simp; omega
 have d2 : decide ((x : Int) ≤ 122) = decide (x ≤ 122) := by rw [Bool.eq_iff_iff]; simp; omega
 have d3 : decide ((x : Int) ≥ 48) = decide (48 ≤ x) := by rw [Bool.eq_iff_iff]; simp; omega
 have d4 : decide ((x : Int) ≤ 57) = decide (x ≤ 57) := by rw [Bool.eq_iff_iff]; simp; omega
 have d5 : ((x : Int) == 95) = decide (x = 95) := by rw [Bool.eq_iff_iff]; simp; omega
 unfold oddR
 cases h1 : decide (97 ≤ x) <;> cases h2 : decide (x ≤ 122) <;> cases h3 : decide (48 ≤ x) <;> cases h4 : decide (x ≤ 57) <;> cases h5 : decide (x = 95) <;>
  (rw [h1] at d1; rw [h2] at d2; rw [h3] at d3; rw [h4] at d4; rw [h5] at d5; clear h1 h2 h3 h4 h5 hx
   go_enter Tryz.func70, Tryz.ntmps70
   go_wp2
   go_ret
   exact ⟨rfl, Below.refl _ _⟩)
def wordP (s : ByteArray) : Bool := (s.toList != ([] : List UInt8)) && !(decide (0 ≤ Lib.idxFunc oddR true s))
theorem word_any (s : ByteArray) (w : World) :
  Calls Tryz.prog 53 #[.string s] w fun e w' => e = .returned (.bool (wordP s)) ∧ Below w.heap.size w w' := by
 have kc := Tryz.strings_ContainsFunc_grows 70 #[] (enters_of Tryz.func70 (by kernel_rfl) rfl) oddR s w (fun W x hx hb => word1_any x hx W)
 unfold wordP
 by_cases h : s.toList = ([] : List UInt8)
 ·have h1 : (s.toList != ([] : List UInt8)) = false := by simpa using h
  rw [h1]
  clear kc h1
  go_enter Tryz.func53, Tryz.ntmps53
  go_wp2
  go_ret
  exact ⟨rfl, Below.refl _ _⟩
 ·have h1 : (s.toList != ([] : List UInt8)) = true := by simpa using h
  rw [h1]
  obtain ⟨b, hb⟩ : ∃ b, decide (0 ≤ Lib.idxFunc oddR true s) = b := ⟨_, rfl⟩
  rw [hb] at kc ⊢
  clear hb h1
  go_enter Tryz.func53, Tryz.ntmps53
  go_wp2_with (go_at_call 71; refine kc.mono ?_; rintro e w1 ⟨rfl, hb1⟩)
  go_ret
  exact ⟨by simp [h], hb1⟩
def rule_word.f (a0 : ByteArray) : Option Bool := some (wordP a0)
theorem rule_word.calls (a0 : ByteArray) (r : Bool) (w : World) (h : rule_word.f a0 = some r) :
  Calls Tryz.prog 53 #[.string a0] w fun e w' => e = .returned (.bool r) ∧ Below w.heap.size w w' := by
 obtain rfl := Option.some.inj h
 exact word_any a0 w
def parser_next.f (l : List ByteArray) (ok : Bool) : Option (ByteArray × List ByteArray × Bool) :=
 match l with
 | [] => some (⟨#[]⟩, [], false)
 | s :: l => if l.length ≤ 1099511627776 then some (s, l, ok) else none
set_option maxHeartbeats 1000000 in
set_option maxRecDepth 100000 in
theorem parser_next.calls (g : Nat) (s0_0 : List ByteArray) (s0_1 : Bool) (r1 : ByteArray) (r2 : List ByteArray) (r3 : Bool) (w0 w : World) (hI : IsS96 w0 w g s0_0 s0_1) (hB : Below w0.heap.size w0 w) (h : parser_next.f s0_0 s0_1 = some (r1, r2, r3)) :
  Calls Tryz.prog 89 #[.pointer (some ⟨g, 0, none⟩)] w fun e w' => e = .returned (.string r1) ∧ IsS96 w0 w' g r2 r3 ∧ Below w0.heap.size w0 w' ∧ KeepBut w w' g none := by
 obtain ⟨A0, c0, hb, ⟨hg, hc⟩, hr⟩ := hI
 have hz0 := Lib.frozen_of_heap hb 0
 have hz1 := Lib.frozen_of_heap hb 1
 have hq1 : w.cell? ⟨g, 1, none⟩ = some (.bool s0_1) := blk_cell hb 1
 cases s0_0 with
 | nil =>
  have hq0 : w.cell? ⟨g, 0, none⟩ = some (.slice A0 0 c0) := blk_cell hb 0
  injection h with h; injection h with h1 h; injection h with h2 h3
  subst h1 h2 h3
  have HR : Aside0 (IsS96 w0 (w.setCell ⟨g, 1, none⟩ (.bool false)) g [] false) := ⟨A0, c0, blk_put hb 1 _ rfl, ⟨hg, hc⟩, hr⟩
  have HB := Aside0.mk hB
  clear hb hr hB hc
  go_enter Tryz.func89, Tryz.ntmps89
  go_wp2
  go_ret
  exact ⟨rfl, HR.out, HB.out.setCell (p := ⟨g, 1, none⟩) hg _, (KeepBut.refl _ _ _).set_ _ _⟩
 | cons s l =>
  have hq0 : w.cell? ⟨g, 0, none⟩ = some (.slice A0 (s :: l).length c0) := blk_cell hb 0
  have hn : (s :: l).length = l.length + 1 := rfl
  have hl : l.length ≤ 1099511627776 := by
   rcases Nat.lt_or_ge 1099511627776 l.length with h' | h'
   ·simp only [parser_next.f] at h; rw [if_neg (by omega)] at h; cases h
   ·exact h'
  simp only [parser_next.f] at h
  rw [if_pos hl] at h
  injection h with h; injection h with h1 h; injection h with h2 h3
  subst h1 h2 h3
  have hdr := Kd.C_drop hr (m := 1) (c := c0) (by rw [hn]; omega) hc
  obtain ⟨ad, rfl, hcell⟩ := Kd.at_string hr 0 (by decide) (by rw [hn]; omega)
  have hcell2 := pw_cell_below hB hcell
  have hel : rdOf ByteArray.empty (s :: l) 0 = s := rfl
  rw [hel, Int.toNat_zero, Addr.add_zero'] at hcell2
  have hlen : ¬ ((s :: l).length : Int) = 0 := by rw [hn]; omega
  have h01 : (0 : Int) < ((s :: l).length : Int) := by rw [hn]; omega
  have h11 : (1 : Int) ≤ ((s :: l).length : Int) := by rw [hn]; omega
  have HB := Aside0.mk hB
  by_cases hc1 : c0 = 1
  ·subst hc1
   rw [if_pos rfl] at hdr
   have HR : Aside0 (IsS96 w0 (w.setCell ⟨g, 0, none⟩ (.slice (some ad) l.length 0)) g l s0_1) := ⟨some ad, 0, blk_put hb 0 _ rfl, ⟨hg, by omega⟩, hdr⟩
   clear hb hr hB hcell hel hdr
   go_enter Tryz.func89, Tryz.ntmps89
   go_wp2
   go_ret
   exact ⟨rfl, HR.out, HB.out.setCell (p := ⟨g, 0, none⟩) hg _, (KeepBut.refl _ _ _).set_ _ _⟩
  ·rw [if_neg hc1] at hdr
   have HR : Aside0 (IsS96 w0 (w.setCell ⟨g, 0, none⟩ (.slice (some (ad.add 1)) l.length (c0 - 1))) g l s0_1) := ⟨some (ad.add 1), c0 - 1, blk_put hb 0 _ rfl, ⟨hg, by omega⟩, hdr⟩
   clear hb hr hB hcell hel hdr
   go_enter Tryz.func89, Tryz.ntmps89
   go_wp2
   go_ret
   exact ⟨rfl, HR.out, HB.out.setCell (p := ⟨g, 0, none⟩) hg _, (KeepBut.refl _ _ _).set_ _ _⟩
end Go.Proofs.YtjcipbdocbomjaaGreatDoor.K
