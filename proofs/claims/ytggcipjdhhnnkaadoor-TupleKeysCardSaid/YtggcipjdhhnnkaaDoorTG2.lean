/- The document's Put, as a plain function; conditions: as each states. -/
import Derived.Test.YtggcipjdhhnnkaaDoorTG0
import Derived.Test.YtggcipjdhhnnkaaDoorPMc
namespace Go.Proofs.YtggcipjdhhnnkaaDoor.K
set_option linter.unusedVariables false
set_option linter.unusedSimpArgs false
open Go.RowKit Go.Proofs.YtggcipjdhhnnkaaDoorW.PrintWords Go.Proofs.YtggcipjdhhnnkaaDoorW.PrintLast Go.Proofs.YtggcipjdhhnnkaaDoorW.PrintMore
open Go.Proofs.YtggcipjdhhnnkaaDoor.PL

/-! the document's Put -/
theorem rput_inner (l : List ByteArray) (i : Nat) (hi : i < l.length) (hl : l.length ≤ 1099511627776) (hp : l[i].size ≤ 1099511627776)
    (hout : ∀ acc : List UInt8, acc.length + (putL (bytesAll (l.drop (i + 1)))).length ≤ 1099511627776 → Ev (fun k => lunetteref01_Put.l0 k l (mk acc) ((i + 1 : Nat) : Int)) (mk (acc ++ putL (bytesAll (l.drop (i + 1)))))) (d : Nat) :
    ∀ (j : Nat) (acc : List UInt8), j ≤ l[i].size → l[i].size - j = d → acc.length + (escL (l[i].data.toList.drop j)).length + 2 + (putL (bytesAll (l.drop (i + 1)))).length ≤ 1099511627776 →
    Ev (fun k => lunetteref01_Put.l1 k l (mk acc) (i : Int) (j : Int)) (mk (acc ++ (escL (l[i].data.toList.drop j) ++ [0, 0]) ++ putL (bytesAll (l.drop (i + 1))))) := by
  have h1 : (i : Int) < (l.length : Int) := by omega
  induction d with
  | zero =>
    intro j acc hj hd hb
    have hz : l[i].data.toList.drop j = [] := by rw [List.drop_eq_nil_iff, data_length]; omega
    rw [hz] at hb ⊢
    rw [escL_nil] at hb ⊢
    have h2 : ¬ (j : Int) < (l[i].size : Int) := by omega
    refine Ev.step (f := fun k => lunetteref01_Put.l0 k l (mk (acc ++ [0, 0])) ((i + 1 : Nat) : Int)) (fun k => ?_) ?_
    · show lunetteref01_Put.l1 (k + 1) l (mk acc) (i : Int) (j : Int) = _
      simp only [lunetteref01_Put.l1]
      rw [if_pos (by omega), if_pos h1, rd_at hi, if_neg h2, if_pos (by rw [mk_size]; simp at hb; omega), w64 (by omega) (by omega)]
      show lunetteref01_Put.l0 k l (mk acc ++ mk [0, 0]) _ = _
      rw [mk_append]; rfl
    · have := hout (acc ++ [0, 0]) (by rw [List.length_append]; simp at hb ⊢; omega)
      simpa [List.append_assoc] using this
  | succ d ih =>
    intro j acc hj hd hb
    have hlt : j < l[i].size := by omega
    have h2 : (j : Int) < (l[i].size : Int) := by omega
    have hw : wrap64 ((j : Int) + 1) = ((j + 1 : Nat) : Int) := by rw [w64 (by omega) (by omega)]; omega
    have hex : l[i].extract ((j : Int)).toNat (((j + 1 : Nat) : Int)).toNat = mk [l[i][j]] := by rw [Int.toNat_natCast, Int.toNat_natCast]; exact one_byte _ _ hlt
    rw [drop_byte _ _ hlt, escL_cons] at hb ⊢
    by_cases hc : l[i][j] = 0
    · rw [if_pos hc] at hb ⊢
      simp only [List.length_append, List.length_cons, List.length_nil] at hb
      refine Ev.step (f := fun k => lunetteref01_Put.l1 k l (mk (acc ++ [0, 255])) (i : Int) ((j + 1 : Nat) : Int)) (fun k => ?_) ?_
      · show lunetteref01_Put.l1 (k + 1) l (mk acc) (i : Int) (j : Int) = _
        simp only [lunetteref01_Put.l1]
        rw [if_pos (by omega), if_pos h1, rd_at hi, if_pos h2, if_pos (by omega), hw, if_pos (by omega), if_pos (by omega), hex, mk_append, mk_size, mk_size, mk_size,
          if_pos (by simp only [List.length_cons, List.length_nil]; omega), bt_byte _ _ hlt, if_pos ((byte_zero _).2 hc), if_pos (by simp only [List.length_append, List.length_cons, List.length_nil]; omega)]
        show lunetteref01_Put.l1 k l (mk (acc ++ [l[i][j]]) ++ mk [255]) _ _ = _
        rw [mk_append, hc, List.append_assoc]; rfl
      · have := ih (j + 1) (acc ++ [0, 255]) (by omega) (by omega) (by simp only [List.length_append, List.length_cons, List.length_nil]; omega)
        simpa [List.append_assoc] using this
    · rw [if_neg hc] at hb ⊢
      simp only [List.length_append, List.length_cons, List.length_nil] at hb
      refine Ev.step (f := fun k => lunetteref01_Put.l1 k l (mk (acc ++ [l[i][j]])) (i : Int) ((j + 1 : Nat) : Int)) (fun k => ?_) ?_
      · show lunetteref01_Put.l1 (k + 1) l (mk acc) (i : Int) (j : Int) = _
        simp only [lunetteref01_Put.l1]
        rw [if_pos (by omega), if_pos h1, rd_at hi, if_pos h2, if_pos (by omega), hw, if_pos (by omega), if_pos (by omega), hex, mk_append, mk_size, mk_size,
          if_pos (by simp only [List.length_cons, List.length_nil]; omega), bt_byte _ _ hlt, if_neg (fun e => hc ((byte_zero _).1 e))]
      · have := ih (j + 1) (acc ++ [l[i][j]]) (by omega) (by omega) (by simp only [List.length_append, List.length_cons, List.length_nil]; omega)
        simpa [List.append_assoc] using this
theorem rput_outer (l : List ByteArray) (hl : l.length ≤ 1099511627776) (hp : ∀ p ∈ l, p.size ≤ 1099511627776) (d : Nat) : ∀ (i : Nat) (acc : List UInt8), i ≤ l.length → l.length - i = d →
    acc.length + (putL (bytesAll (l.drop i))).length ≤ 1099511627776 → Ev (fun k => lunetteref01_Put.l0 k l (mk acc) (i : Int)) (mk (acc ++ putL (bytesAll (l.drop i)))) := by
  induction d with
  | zero =>
    intro i acc hi hd hb
    rw [List.drop_of_length_le (by omega)]
    refine Ev.step (f := fun _ => some (mk (acc ++ putL (bytesAll [])))) (fun k => ?_) (Ev.now _)
    show lunetteref01_Put.l0 (k + 1) l (mk acc) (i : Int) = _
    simp only [lunetteref01_Put.l0]
    rw [if_neg (by omega)]
    simp [bytesAll, putL]
  | succ d ih =>
    intro i acc hi hd hb
    have hlt : i < l.length := by omega
    have hsp : putL (bytesAll (l.drop i)) = (escL (l[i].data.toList.drop 0) ++ [0, 0]) ++ putL (bytesAll (l.drop (i + 1))) := by
      rw [List.drop_eq_getElem_cons hlt, List.drop_zero]; rw [show bytesAll (l[i] :: l.drop (i + 1)) = l[i].data.toList :: bytesAll (l.drop (i + 1)) from rfl, putL_cons]
    rw [hsp] at hb ⊢
    simp only [List.length_append, List.length_cons, List.length_nil] at hb
    refine Ev.step (f := fun k => lunetteref01_Put.l1 k l (mk acc) (i : Int) ((0 : Nat) : Int)) (fun k => ?_) ?_
    · show lunetteref01_Put.l0 (k + 1) l (mk acc) (i : Int) = _
      simp only [lunetteref01_Put.l0]
      rw [if_pos (by omega)]; rfl
    · have := rput_inner l i hlt hl (hp _ (List.getElem_mem hlt)) (fun acc2 hb2 => ih (i + 1) acc2 (by omega) (by omega) hb2) l[i].size 0 acc (by omega) (by omega) (by omega)
      simpa [List.append_assoc] using this
theorem rput_ev (l : List ByteArray) (hb : (putL (bytesAll l)).length ≤ 1099511627776) : Ev (fun k => lunetteref01_Put.f k l) (mk (putL (bytesAll l))) := by
  have hl : l.length ≤ (putL (bytesAll l)).length ∧ ∀ p ∈ l, p.size ≤ (putL (bytesAll l)).length := by
    clear hb
    induction l with
    | nil => simp
    | cons p l ih =>
      rw [show bytesAll (p :: l) = p.data.toList :: bytesAll l from rfl, putL_cons]
      have h2 := escL_le p.data.toList
      rw [data_length] at h2
      simp only [List.length_append, List.length_cons, List.length_nil]
      refine ⟨by omega, fun q hq => ?_⟩
      rcases List.mem_cons.1 hq with rfl | hq
      · omega
      · have := ih.2 q hq; omega
  have := rput_outer l (by omega) (fun p hp => by have := hl.2 p hp; omega) l.length 0 [] (by omega) (by omega) (by simpa using hb)
  simpa [lunetteref01_Put.f, mk] using this
end Go.Proofs.YtggcipjdhhnnkaaDoor.K
