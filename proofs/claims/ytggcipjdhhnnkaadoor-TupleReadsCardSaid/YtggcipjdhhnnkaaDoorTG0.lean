/- Lemmas of this claim's own proof; conditions: as each states. -/
import Derived.Test.YtggcipjdhhnnkaaDoorHM
import Derived.Test.YtggcipjdhhnnkaaDoorHNC
import Derived.Test.YtggcipjdhhnnkaaDoorPLM
import Derived.Lib.Strings
namespace Go.Proofs.YtggcipjdhhnnkaaDoor.K
set_option linter.unusedVariables false
set_option linter.unusedSimpArgs false
open Go.RowKit Go.Proofs.YtggcipjdhhnnkaaDoorW.PrintWords Go.Proofs.YtggcipjdhhnnkaaDoorW.PrintLast Go.Proofs.YtggcipjdhhnnkaaDoorW.PrintMore
open Go.Proofs.YtggcipjdhhnnkaaDoor.PL

theorem w64 {x : Int} (h0 : -9223372036854775808 ≤ x) (h1 : x ≤ 9223372036854775807) : wrap64 x = x := by unfold wrap64; omega
theorem rd_at {l : List ByteArray} {i : Nat} (h : i < l.length) : rdOf ByteArray.empty l (i : Int) = l[i] := by simp [rdOf, h]
theorem bytes_eq {a b : ByteArray} (h : a.toList = b.toList) : a = b := by
  rw [ByteArray.toList_eq, ByteArray.toList_eq] at h
  cases a; cases b; congr; exact Array.ext' h
theorem tl_iff (a b : ByteArray) : a.toList = b.toList ↔ a = b := ⟨bytes_eq, fun h => by rw [h]⟩

/-! Put and Get -/
theorem put_f {l : List ByteArray} (h : (putL (bytesAll l)).length ≤ 1099511627776) : key_Put.f l = some ⟨(putL (bytesAll l)).toArray⟩ := by unfold key_Put.f; rw [if_pos h]
def U (l : List UInt8) : List Int := l.map fun b => (b.toNat : Int)
theorem U_append (a b : List UInt8) : U (a ++ b) = U a ++ U b := by simp [U]
theorem str_U (l : List UInt8) : strOfNums (U l) = ⟨l.toArray⟩ := by
  unfold strOfNums U
  rw [List.map_map]
  congr 2
  conv => rhs; rw [← List.map_id l]
  apply List.map_congr_left
  intro b _
  simp
theorem getI_byte {c : Int} (hc : ¬ c = 0) (r part : List Int) (acc : List ByteArray) : getI (c :: r) part acc = getI r (part ++ [c]) acc := by
  conv => lhs; unfold getI
  rw [if_neg hc]
theorem getI_zero (r part : List Int) (acc : List ByteArray) : getI (0 :: 255 :: r) part acc = getI r (part ++ [0]) acc := by
  conv => lhs; unfold getI
  simp
theorem getI_part (r part : List Int) (acc : List ByteArray) : getI (0 :: 0 :: r) part acc = getI r [] (acc ++ [strOfNums part]) := by
  conv => lhs; unfold getI
  simp
theorem U_esc (p : List UInt8) (r part : List Int) (acc : List ByteArray) : getI (U (escL p) ++ r) part acc = getI r (part ++ U p) acc := by
  induction p generalizing part with
  | nil => simp [escL, U]
  | cons c p ih =>
    rw [escL_cons]
    by_cases hc : c = 0
    · subst hc
      rw [if_pos rfl]
      show getI (0 :: 255 :: (U (escL p) ++ r)) part acc = _
      rw [getI_zero, ih]
      simp [U]
    · rw [if_neg hc]
      show getI ((c.toNat : Int) :: (U (escL p) ++ r)) part acc = _
      have hn : ¬ (c.toNat : Int) = 0 := fun e => hc (UInt8.toNat_inj.1 (by simpa using e))
      rw [getI_byte hn, ih]
      simp [U]
theorem get_put (ps : List (List UInt8)) (acc : List ByteArray) : getI (U (putL ps)) [] acc = some (acc ++ ps.map fun p => ⟨p.toArray⟩) := by
  induction ps generalizing acc with
  | nil => simp [putL, U, getI]
  | cons p ps ih =>
    rw [putL_cons, List.append_assoc, U_append, U_esc]
    show getI (0 :: 0 :: U (putL ps)) _ _ = _
    rw [getI_part, ih, List.nil_append, str_U]
    simp
theorem bytesAll_back (l : List ByteArray) : (bytesAll l).map (fun p => (⟨p.toArray⟩ : ByteArray)) = l := by
  unfold bytesAll
  rw [List.map_map]
  conv => rhs; rw [← List.map_id l]
  apply List.map_congr_left
  intro b _
  simp
theorem bytesAll_inj {a b : List ByteArray} (h : bytesAll a = bytesAll b) : a = b := by rw [← bytesAll_back a, h, bytesAll_back]
theorem bytesAll_append (a b : List ByteArray) : bytesAll (a ++ b) = bytesAll a ++ bytesAll b := by simp [bytesAll]
theorem size_mk (l : List UInt8) : (⟨l.toArray⟩ : ByteArray).size = l.length := by simp [ByteArray.size]
theorem bytesOf_mk (l : List UInt8) : bytesOf ⟨l.toArray⟩ = U l := by simp [bytesOf, U]
theorem get_f_put {l : List ByteArray} (h : (putL (bytesAll l)).length ≤ 1099511627776) : key_Get.f ⟨(putL (bytesAll l)).toArray⟩ = some (l, 0) := by
  unfold key_Get.f
  rw [if_pos (by rw [size_mk]; exact h), bytesOf_mk, get_put]
  simp [getR, bytesAll_back]
def mk (l : List UInt8) : ByteArray := ⟨l.toArray⟩
theorem mk_data (l : List UInt8) : (mk l).data.toList = l := by simp [mk]
theorem mk_of (a : ByteArray) : mk a.data.toList = a := by simp [mk]
theorem data_inj {a b : ByteArray} (h : a.data.toList = b.data.toList) : a = b := by rw [← mk_of a, h, mk_of]
theorem data_append (a b : ByteArray) : (a ++ b).data.toList = a.data.toList ++ b.data.toList := by simp
theorem mk_append (a b : List UInt8) : mk a ++ mk b = mk (a ++ b) := data_inj (by rw [data_append, mk_data, mk_data, mk_data])
theorem mk_size (l : List UInt8) : (mk l).size = l.length := size_mk l
theorem one_byte (p : ByteArray) (j : Nat) (h : j < p.size) : p.extract j (j + 1) = mk [p[j]] := by
  apply data_inj
  rw [Lib.extract_data, mk_data, Nat.add_sub_cancel_left]
  have hl : j < p.data.toList.length := by rw [data_length]; exact h
  rw [List.drop_eq_getElem_cons hl]
  simp
  rfl
theorem bt_byte (p : ByteArray) (j : Nat) (h : j < p.size) : bt p (j : Int) = (p[j].toNat : Int) := by simp [bt, h]
theorem drop_byte (p : ByteArray) (j : Nat) (h : j < p.size) : p.data.toList.drop j = p[j] :: p.data.toList.drop (j + 1) := by
  have hl : j < p.data.toList.length := by rw [data_length]; exact h
  rw [List.drop_eq_getElem_cons hl]
  rfl
theorem byte_zero (b : UInt8) : (b.toNat : Int) = 0 ↔ b = 0 := ⟨fun h => UInt8.toNat_inj.1 (by simpa using h), fun h => by rw [h]; rfl⟩

theorem U_cons (c : UInt8) (l : List UInt8) : U (c :: l) = (c.toNat : Int) :: U l := rfl
theorem U_snoc (l : List UInt8) (c : UInt8) : U l ++ [(c.toNat : Int)] = U (l ++ [c]) := by simp [U]
theorem U_length (l : List UInt8) : (U l).length = l.length := by simp [U]
theorem byte_255 (b : UInt8) : (b.toNat : Int) = 255 ↔ b = 255 := ⟨fun h => UInt8.toNat_inj.1 (by show _ = 255; omega), fun h => by rw [h]; rfl⟩
theorem getI_bad {d : UInt8} (h0 : d ≠ 0) (h1 : d ≠ 255) (r part : List Int) (acc : List ByteArray) : getI (0 :: (d.toNat : Int) :: r) part acc = none := by
  have a := fun e => h0 ((byte_zero d).1 e)
  have b := fun e => h1 ((byte_255 d).1 e)
  conv => lhs; unfold getI
  simp only [if_true]
  rw [if_neg b, if_neg a]
theorem getI_lone (part : List Int) (acc : List ByteArray) : getI [0] part acc = none := by
  conv => lhs; unfold getI
  simp
theorem getI_nil (part : List Int) (acc : List ByteArray) : getI [] part acc = if part.length > 0 then none else some acc := rfl
/-- What is got is put together the text again. -/
theorem get_back : ∀ (n : Nat) (s part : List UInt8) (acc l : List ByteArray), s.length ≤ n → getI (U s) (U part) acc = some l → putL (bytesAll acc) ++ escL part ++ s = putL (bytesAll l)
  | n, [], part, acc, l, _, h => by
    rw [show U [] = [] from rfl, getI_nil, U_length] at h
    by_cases hp : part.length > 0
    · rw [if_pos hp] at h; cases h
    · rw [if_neg hp] at h
      obtain rfl := Option.some.inj h
      have : part = [] := List.eq_nil_of_length_eq_zero (by omega)
      rw [this, escL_nil, List.append_nil, List.append_nil]
  | 0, _ :: _, _, _, _, hn, _ => by simp at hn
  | n + 1, c :: s, part, acc, l, hn, h => by
    rw [U_cons] at h
    have hsn : s.length ≤ n := by simpa using hn
    by_cases hc : c = 0
    · subst hc
      cases s with
      | nil =>
        rw [show ((0 : UInt8).toNat : Int) = 0 from rfl, show U [] = [] from rfl, getI_lone] at h; cases h
      | cons d s =>
        rw [show ((0 : UInt8).toNat : Int) = 0 from rfl, U_cons] at h
        have hsn2 : s.length ≤ n := by simp at hsn; omega
        by_cases h255 : d = 255
        · subst h255
          rw [show ((255 : UInt8).toNat : Int) = 255 from rfl, getI_zero, show U part ++ [0] = U (part ++ [0]) from U_snoc part 0] at h
          have := get_back n s (part ++ [0]) acc l hsn2 h
          rw [← this, escL_append]; simp [escL]
        · by_cases h0 : d = 0
          · subst h0
            rw [show ((0 : UInt8).toNat : Int) = 0 from rfl, getI_part, str_U] at h
            have h : getI (U s) (U []) (acc ++ [⟨part.toArray⟩]) = some l := h
            have := get_back n s [] (acc ++ [⟨part.toArray⟩]) l hsn2 h
            rw [← this, bytesAll_append, putL_append, show bytesAll [(⟨part.toArray⟩ : ByteArray)] = [part] by simp [bytesAll], putL_cons, putL_nil, escL_nil]
            simp
          · rw [getI_bad h0 h255] at h; cases h
    · rw [getI_byte (fun e => hc ((byte_zero c).1 e)), U_snoc] at h
      have := get_back n s (part ++ [c]) acc l hsn h
      rw [← this, escL_append]
      have e : escL [c] = [c] := by rw [escL_cons, if_neg hc]; rfl
      rw [e]; simp

end Go.Proofs.YtggcipjdhhnnkaaDoor.K
