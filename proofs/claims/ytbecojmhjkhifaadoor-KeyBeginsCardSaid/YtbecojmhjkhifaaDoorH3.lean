/- Lemmas of this claim's own proof; conditions: as each states. -/
import Derived.Test.YtbecojmhjkhifaaDoorH1
import Derived.Test.YtbecojmhjkhifaaDoorPL1
import Derived.Test.YtbecojmhjkhifaaDoorHB
namespace Go.Proofs.YtbecojmhjkhifaaDoor.K
set_option linter.unusedVariables false
set_option linter.unusedSimpArgs false
open Go.RowKit Go.Proofs.YtbecojmhjkhifaaDoorW.PrintWords Go.Proofs.YtbecojmhjkhifaaDoorW.PrintLast Go.Proofs.YtbecojmhjkhifaaDoorW.PrintMore
open Go.Proofs.YtbecojmhjkhifaaDoor.PL

theorem dl (s : ByteArray) : s.data.toList.length = s.size := data_length s
theorem builder_below {B b : Nat} {bs : List Value} {w w1 : World} (h : Lib.IsBuilder 46 5 B b bs w) (hb : Below w.heap.size w w1) : Lib.IsBuilder 46 5 B b bs w1 := by
  have step : ∀ p, Lib.BuilderAt 46 5 B b p bs w → Lib.BuilderAt 46 5 B b p bs w1 := by
    rintro p ⟨hB, v, hbk, hown, hne⟩
    have hlt := lt_of_block hbk
    exact ⟨hB, v, by rw [hb.block b hlt]; exact hbk, own_move hown (fun k hk => hb.block k (own_lt hown k hk)), hne⟩
  exact h.imp (step _) (step _)
set_option maxHeartbeats 4000000 in
set_option maxRecDepth 100000 in
/-- strings.Replace of each 0 by 0 and 255, where there is one. -/
theorem replace_some (s : ByteArray) (w : World) (hs : s.size ≤ 1099511627776) (hc0 : s.data.toList.count 0 ≠ 0) :
    Calls Tryd.prog 35 #[.string s, .string ⟨#[0]⟩, .string ⟨#[0, 255]⟩, .int .i64 (-1)] w fun e w' => e = .returned (.string ⟨(escL s.data.toList).toArray⟩) ∧ Below w.heap.size w w' := by
  have hC := Tryd.strings_Count_one s 0 w
  have hcle : s.data.toList.count 0 ≤ s.size := by rw [← dl s]; exact List.count_le_length
  unfold Lib.countByte at hC
  obtain ⟨K, hK⟩ : ∃ K : Nat, s.data.toList.count 0 = K := ⟨_, rfl⟩
  rw [hK] at hC hcle hc0
  have HK := Aside0.mk hK
  clear hK
  have hcz : ((K : Int) == 0) = false := beq_eq_false_iff_ne.2 (by omega)
  go_enter Tryd.func35, Tryd.ntmps35
  go_wp2_with (first | (go_at_call 38; refine hC.mono ?_; rintro e w' ⟨rfl, hw⟩; rw [hw]))
  clear hC hcz
  rw [show (s.size : Int) + (K : Int) = ((s.size + K : Nat) : Int) by omega]
  refine (Tryd.Builder_Grow_fresh w.heap.size w.heap.size (s.size + K) _ (Nat.le_refl _) (alloc_new w _) (by simp) (by omega)).mono ?_
  rintro e w1 ⟨rfl, hb0, hb1⟩
  have H1 := Aside0.mk (Or.inr hb0 : Lib.IsBuilder 46 5 w.heap.size w.heap.size (Lib.byteCells []) w1)
  have Hb1 := Aside0.mk (((Below.refl w.heap.size w).alloc (Nat.le_refl _) _).trans hb1)
  clear hb0 hb1
  go_wp2_with fail
  go_loopg [11, 12, 53] K (fun g s11 s12 s53 wx => ∃ (i start : Nat) (acc : List UInt8), s53 = .int .i64 i ∧ s11 = .int .i64 start ∧ i + g = K ∧ start ≤ s.size ∧
      Aside0 (Lib.IsBuilder 46 5 w.heap.size w.heap.size (Lib.byteCells acc) wx) ∧ Aside0 (Below w.heap.size w wx) ∧ Aside0 (acc ++ escL (s.data.toList.drop start) = escL s.data.toList) ∧
      Aside0 ((s.data.toList.drop start).count 0 = g) ∧ acc.length + (s.size - start) + g ≤ s.size + K)
  case atStart => exact ⟨0, 0, [], rfl, rfl, by omega, Nat.zero_le _, H1, Hb1, ⟨rfl⟩, ⟨HK.out⟩, by simp⟩
  case round =>
    clear H1 Hb1
    obtain ⟨i, start, acc, rfl, rfl, hig, hst, HB, HW, HR, HG, hbd⟩ := hrel
    have hBw : w.heap.size ≤ wr.heap.size := HW.out.size
    have c1 : (0 : Int) ≤ (start : Int) := by omega
    have c2 : (start : Int) ≤ (s.size : Int) := by omega
    cases gk with
    | zero =>
      have hiK : ¬ ((i : Int) < (K : Int)) := by omega
      go_wp2_with fail
      refine (writeString w.heap.size w.heap.size _ _ wr HB.out (by rw [Lib.byteCells_length, ByteArray.size_extract]; omega) hBw).mono ?_
      rintro e w3 ⟨rfl, h3, hb3⟩
      rw [Lib.strCells_eq, Lib.extract_to_end, ← Lib.byteCells_append] at h3
      have hfin : acc ++ s.data.toList.drop start = escL s.data.toList := by rw [← HR.out, no_zero HG.out]
      rw [hfin] at h3
      have H3 := Aside0.mk (Or.inr h3 : Lib.IsBuilder 46 5 w.heap.size w.heap.size _ w3)
      have Hb3 := Aside0.mk (HW.out.trans hb3)
      have hBw3 : w.heap.size ≤ w3.heap.size := Hb3.out.size
      clear h3 hb3 hfin
      go_wp2_with fail
      refine (Tryd.Builder_String_any w.heap.size w.heap.size _ w3 H3.out hBw3).mono ?_
      rintro e w5 ⟨rfl, hb5⟩
      have Hb5 := Aside0.mk (Hb3.out.trans hb5)
      clear hb5
      go_wp2
      go_ret
      exact ⟨rfl, Hb5.out⟩
    | succ g =>
      have hiK : (i : Int) < (K : Int) := by omega
      obtain ⟨j, hj, hjl, hesc, hcnt⟩ := first_zero (l := s.data.toList.drop start) (by rw [HG.out]; omega)
      rw [List.length_drop, dl s] at hjl
      rw [HG.out] at hcnt
      rw [List.drop_drop] at hesc hcnt
      have c3 : (start : Int) ≤ (start : Int) + (j : Int) := by omega
      have c4 : (start : Int) + (j : Int) ≤ (s.size : Int) := by omega
      have htl : ((s.data.toList.drop start).take j).length = j := by rw [List.length_take, List.length_drop, dl s]; omega
      have Hn : Aside0 (Lib.byteCells acc ++ Lib.strCells (s.extract start (start + j)) ++ Lib.strCells ⟨#[0, 255]⟩ = Lib.byteCells (acc ++ (s.data.toList.drop start).take j ++ [0, 255])) := ⟨by
        rw [Lib.strCells_eq, Lib.strCells_eq, Lib.extract_data, Nat.add_sub_cancel_left, ← Lib.byteCells_append, ← Lib.byteCells_append]⟩
      have Hrep : Aside0 ((acc ++ (s.data.toList.drop start).take j ++ [0, 255]) ++ escL (s.data.toList.drop (start + (j + 1))) = escL s.data.toList) := ⟨by
        rw [← HR.out, hesc]; simp only [List.append_assoc]⟩
      have Hcnt : Aside0 ((s.data.toList.drop (start + (j + 1))).count 0 = g) := ⟨by omega⟩
      have HJ := Lib.hid hj
      have Htl := Lib.hid htl
      clear hesc hcnt HR hj htl HG
      go_wp2_with (first | (go_at_call 40; refine (Tryd.strings_Index_one _ _ _).mono ?_; rintro e w' ⟨rfl, hw⟩; rw [hw, Lib.extract_to_end, HJ.out]))
      refine (writeString w.heap.size w.heap.size _ (s.extract start (start + j)) wr HB.out (by rw [Lib.byteCells_length, ByteArray.size_extract]; omega) hBw).mono ?_
      rintro e w3 ⟨rfl, h3, hb3⟩
      have hBw3 : w.heap.size ≤ w3.heap.size := Nat.le_trans hBw hb3.size
      have H3 := Aside0.mk h3
      have Hb3 := Aside0.mk hb3
      clear h3 hb3
      go_wp2_with fail
      refine (writeString w.heap.size w.heap.size _ ⟨#[0, 255]⟩ w3 (Or.inr H3.out) (by rw [List.length_append, Lib.byteCells_length, Lib.strCells_length, ByteArray.size_extract]; show _ + 2 ≤ _; omega) hBw3).mono ?_
      rintro e w4 ⟨rfl, h4, hb4⟩
      rw [Hn.out] at h4
      have H4 := Aside0.mk (Or.inr h4 : Lib.IsBuilder 46 5 w.heap.size w.heap.size _ w4)
      have Hb4 := Aside0.mk ((HW.out.trans Hb3.out).trans hb4)
      clear h4 hb4
      go_wp2
      go_roundg g
      case measure => omega
      case rel => exact ⟨i + 1, start + (j + 1), _, by first | rfl | (simp; unfold wrap64; omega), by first | rfl | (simp; done) | (congr 1; omega), by omega, by omega, H4, Hb4, Hrep, Hcnt, by simp only [List.length_append, Htl.out, List.length_cons, List.length_nil]; omega⟩
set_option maxHeartbeats 1000000 in
theorem replace_absent (s : ByteArray) (w : World) (hc0 : s.data.toList.count 0 = 0) :
    Calls Tryd.prog 35 #[.string s, .string ⟨#[0]⟩, .string ⟨#[0, 255]⟩, .int .i64 (-1)] w fun e w' => e = .returned (.string s) ∧ w' = w := by
  have hC := Tryd.strings_Count_one s 0 w
  unfold Lib.countByte at hC
  rw [hc0] at hC
  clear hc0
  go_enter Tryd.func35, Tryd.ntmps35
  go_wp2_with (first | (go_at_call 38; refine hC.mono ?_; rintro e w' ⟨rfl, hw⟩; rw [hw]))
  go_ret
  exact ⟨rfl, rfl⟩
theorem replace_any (s : ByteArray) (w : World) (hs : s.size ≤ 1099511627776) :
    Calls Tryd.prog 35 #[.string s, .string ⟨#[0]⟩, .string ⟨#[0, 255]⟩, .int .i64 (-1)] w fun e w' => e = .returned (.string ⟨(escL s.data.toList).toArray⟩) ∧ Below w.heap.size w w' := by
  by_cases hc0 : s.data.toList.count 0 = 0
  · refine (replace_absent s w hc0).mono ?_
    rintro e w' ⟨rfl, rfl⟩
    exact ⟨by rw [no_zero hc0], Below.refl _ _⟩
  · exact replace_some s w hs hc0
theorem replaceAll_any (s : ByteArray) (w : World) (hs : s.size ≤ 1099511627776) :
    Calls Tryd.prog 29 #[.string s, .string ⟨#[0]⟩, .string ⟨#[0, 255]⟩] w fun e w' => e = .returned (.string ⟨(escL s.data.toList).toArray⟩) ∧ Below w.heap.size w w' := by
  go_enter Tryd.func29, Tryd.ntmps29
  go_wp2_with (go_at_call 35; refine (replace_any s _ hs).mono ?_; rintro e w' ⟨rfl, hb⟩)
  go_ret
  exact ⟨rfl, hb⟩

def bytesAll (l0 : List ByteArray) : List (List UInt8) := l0.map fun p => p.data.toList
def key_Put.f (l0 : List ByteArray) : Option ByteArray := if (putL (bytesAll l0)).length ≤ 1099511627776 then some ⟨(putL (bytesAll l0)).toArray⟩ else none
set_option maxHeartbeats 1000000 in
set_option maxRecDepth 100000 in
theorem put_any (A0 : Option Addr) (c0 : Nat) (l0 : List ByteArray) (w : World) (hr0 : Kd.C Kd.string w A0 l0.length l0) (hc0 : l0.length ≤ c0) (hsz : (putL (bytesAll l0)).length ≤ 1099511627776) :
    Calls Tryd.prog 15 #[.slice A0 l0.length c0] w fun e w' => e = .returned (.string ⟨(putL (bytesAll l0)).toArray⟩) ∧ Below w.heap.size w w' := by
  have HR0 := Aside0.mk hr0
  have HC0 := Aside0.mk hc0
  clear hr0 hc0
  have hll : l0.length ≤ 1099511627776 := by
    have : ∀ l : List ByteArray, l.length ≤ (putL (bytesAll l)).length := by
      intro l
      induction l with
      | nil => simp [bytesAll, putL]
      | cons p l ih => rw [show bytesAll (p :: l) = p.data.toList :: bytesAll l from rfl, putL_cons]; simp only [List.length_cons, List.length_append]; omega
    have := this l0; omega
  go_enter Tryd.func15, Tryd.ntmps15
  go_wp2_with fail
  go_loopg [5, 8] l0.length (fun g s5 s8 wx => ∃ (i : Nat), s8 = .int .i64 i ∧ i + g = l0.length ∧
      Aside0 (Lib.IsBuilder 46 5 w.heap.size w.heap.size (Lib.byteCells (putL (bytesAll (l0.take i)))) wx) ∧ Aside0 (Below w.heap.size w wx))
  case atStart => exact ⟨0, rfl, by omega, ⟨Lib.fresh_isBuilder 46 5 w⟩, ⟨(Below.refl _ _).alloc (Nat.le_refl _) _⟩⟩
  case round =>
    obtain ⟨i, rfl, hig, HB, HW⟩ := hrel
    have hBw : w.heap.size ≤ wr.heap.size := HW.out.size
    cases gk with
    | zero =>
      have hiK : ¬ ((i : Int) < (l0.length : Int)) := by omega
      go_wp2_with fail
      have hB2 := HB.out
      rw [List.take_of_length_le (by omega)] at hB2
      refine (Tryd.Builder_String_any w.heap.size w.heap.size _ wr hB2 hBw).mono ?_
      rintro e w5 ⟨rfl, hb5⟩
      have Hb5 := Aside0.mk (HW.out.trans hb5)
      clear hb5 hB2
      go_wp2
      go_ret
      exact ⟨rfl, Hb5.out⟩
    | succ g =>
      have hlt : i < l0.length := by omega
      have hiK : (i : Int) < (l0.length : Int) := by omega
      obtain ⟨ad, rfl, hcell⟩ := Kd.at_string HR0.out (i : Int) (by omega) hiK
      have hcell2 := pw_cell_below HW.out hcell
      have hel : rdOf ByteArray.empty l0 (i : Int) = l0[i] := by simp [rdOf, hlt]
      rw [Int.toNat_natCast] at hcell2
      rw [hel] at hcell2
      clear hcell hel
      obtain ⟨p, hp⟩ : ∃ p, l0[i] = p := ⟨_, rfl⟩
      rw [hp] at hcell2
      have htk : l0.take (i + 1) = l0.take i ++ [p] := by rw [List.take_succ_eq_append_getElem hlt, hp]
      have hsplit : putL (bytesAll l0) = putL (bytesAll (l0.take i)) ++ (escL p.data.toList ++ [0, 0]) ++ putL (bytesAll (l0.drop (i + 1))) := by
        have h1 : l0 = l0.take i ++ (p :: l0.drop (i + 1)) := by conv => lhs; rw [← List.take_append_drop i l0, List.drop_eq_getElem_cons hlt, hp]
        conv => lhs; rw [h1]
        rw [show bytesAll (l0.take i ++ (p :: l0.drop (i + 1))) = bytesAll (l0.take i) ++ (p.data.toList :: bytesAll (l0.drop (i + 1))) by simp [bytesAll], putL_append, putL_cons, List.append_assoc]
        simp only [List.append_assoc]
      have hlen : (putL (bytesAll (l0.take i))).length + ((escL p.data.toList).length + 2) ≤ 1099511627776 := by
        rw [hsplit] at hsz
        simp only [List.length_append, List.length_cons, List.length_nil] at hsz
        omega
      have hps : p.size ≤ 1099511627776 := by
        have := escL_le p.data.toList
        rw [dl] at this
        omega
      have Hn : Aside0 (Lib.byteCells (putL (bytesAll (l0.take i))) ++ Lib.strCells ⟨(escL p.data.toList).toArray⟩ ++ Lib.strCells ⟨#[0, 0]⟩ = Lib.byteCells (putL (bytesAll (l0.take (i + 1))))) := ⟨by
        rw [htk, show bytesAll (l0.take i ++ [p]) = bytesAll (l0.take i) ++ [p.data.toList] by simp [bytesAll], putL_append, putL_cons, putL_nil, List.append_nil, Lib.byteCells_append, Lib.byteCells_append, List.append_assoc]; rfl⟩
      have hes : (⟨(escL p.data.toList).toArray⟩ : ByteArray).size = (escL p.data.toList).length := by simp [ByteArray.size]
      have Hes := Lib.hid hes
      clear hsplit hp htk hes
      go_wp2_with (go_at_call 29; refine (replaceAll_any p _ hps).mono ?_; rintro e w2 ⟨rfl, hb2⟩)
      have H2 : Aside0 (Lib.IsBuilder 46 5 w.heap.size w.heap.size (Lib.byteCells (putL (bytesAll (l0.take i)))) w2) := ⟨builder_below HB.out hb2⟩
      have Hb2 := Aside0.mk (HW.out.trans (hb2.mono hBw))
      have hBw2 : w.heap.size ≤ w2.heap.size := Hb2.out.size
      clear hb2
      refine (writeString w.heap.size w.heap.size _ _ w2 H2.out (by rw [Lib.byteCells_length, Hes.out]; omega) hBw2).mono ?_
      rintro e w3 ⟨rfl, h3, hb3⟩
      have hBw3 : w.heap.size ≤ w3.heap.size := Nat.le_trans hBw2 hb3.size
      have H3 := Aside0.mk h3
      have Hb3 := Aside0.mk hb3
      clear h3 hb3
      go_wp2_with fail
      refine (writeString w.heap.size w.heap.size _ ⟨#[0, 0]⟩ w3 (Or.inr H3.out) (by rw [List.length_append, Lib.byteCells_length, Lib.strCells_length, Hes.out]; show _ + 2 ≤ _; omega) hBw3).mono ?_
      rintro e w4 ⟨rfl, h4, hb4⟩
      rw [Hn.out] at h4
      have H4 := Aside0.mk (Or.inr h4 : Lib.IsBuilder 46 5 w.heap.size w.heap.size _ w4)
      have Hb4 := Aside0.mk ((Hb2.out.trans Hb3.out).trans hb4)
      clear h4 hb4
      go_wp2
      go_roundg g
      case measure => omega
      case rel => exact ⟨i + 1, by first | rfl | (simp; unfold wrap64; omega), by omega, H4, Hb4⟩
theorem key_Put.calls (A0 : Option Addr) (c0 : Nat) (l0 : List ByteArray) (r : ByteArray) (w : World) (hr0 : Kd.C Kd.string w A0 l0.length l0) (hc0 : l0.length ≤ c0) (h : key_Put.f l0 = some r) :
    Calls Tryd.prog 15 #[.slice A0 l0.length c0] w fun e w' => e = .returned (.string r) ∧ Below w.heap.size w w' := by
  unfold key_Put.f at h
  by_cases hs : (putL (bytesAll l0)).length ≤ 1099511627776
  · rw [if_pos hs] at h
    obtain rfl := Option.some.inj h
    exact put_any A0 c0 l0 w hr0 hc0 hs
  · rw [if_neg hs] at h
    cases h
end Go.Proofs.YtbecojmhjkhifaaDoor.K
