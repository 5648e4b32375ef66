/- KeyGets: the pure statement of the law, and its walk. Conditions: none beyond the row's own. -/
import Derived.Test.YtbecojmhjkhifaaDoorG2
import Derived.Test.YtbecojmhjkhifaaDoorP10
namespace Go.Proofs.YtbecojmhjkhifaaDoor.K
set_option linter.unusedVariables false
set_option linter.unusedSimpArgs false
open Go.RowKit Go.Proofs.YtbecojmhjkhifaaDoorW.PrintWords Go.Proofs.YtbecojmhjkhifaaDoorW.PrintLast Go.Proofs.YtbecojmhjkhifaaDoorW.PrintMore
open Go.Proofs.YtbecojmhjkhifaaDoor.PL

theorem U_cons (c : UInt8) (l : List UInt8) : U (c :: l) = (c.toNat : Int) :: U l := rfl
theorem U_snoc (l : List UInt8) (c : UInt8) : U l ++ [(c.toNat : Int)] = U (l ++ [c]) := by simp [U]
theorem U_length (l : List UInt8) : (U l).length = l.length := by simp [U]
theorem byte_255 (b : UInt8) : (b.toNat : Int) = 255 ↔ b = 255 := ⟨fun h => UInt8.toNat_inj.1 (by show _ = 255; omega), fun h => by rw [h]; rfl⟩
theorem getI_bad {d : UInt8} (h0 : d ≠ 0) (h1 : d ≠ 255) (r part : List Int) (acc : List ByteArray) : getI (0 :: (d.toNat : Int) :: r) part acc = none := by
  have a := fun e => h0 ((byte_zero d).1 e)
  have b := fun e => h1 ((byte_255 d).1 e)
  conv => lhs; unfold getI
  simp only [if_true]
  rw [if_neg b, if_neg a]
theorem getI_lone (part : List Int) (acc : List ByteArray) : getI [0] part acc = none := by
  conv => lhs; unfold getI
  simp
theorem getI_nil (part : List Int) (acc : List ByteArray) : getI [] part acc = if part.length > 0 then none else some acc := rfl
/-- What is got is put together the text again. -/
theorem get_back : ∀ (n : Nat) (s part : List UInt8) (acc l : List ByteArray), s.length ≤ n → getI (U s) (U part) acc = some l → putL (bytesAll acc) ++ escL part ++ s = putL (bytesAll l)
  | n, [], part, acc, l, _, h => by
    rw [show U [] = [] from rfl, getI_nil, U_length] at h
    by_cases hp : part.length > 0
    · rw [if_pos hp] at h; cases h
    · rw [if_neg hp] at h
      obtain rfl := Option.some.inj h
      have : part = [] := List.eq_nil_of_length_eq_zero (by omega)
      rw [this, escL_nil, List.append_nil, List.append_nil]
  | 0, _ :: _, _, _, _, hn, _ => by simp at hn
  | n + 1, c :: s, part, acc, l, hn, h => by
    rw [U_cons] at h
    have hsn : s.length ≤ n := by simpa using hn
    by_cases hc : c = 0
    · subst hc
      cases s with
      | nil =>
        rw [show ((0 : UInt8).toNat : Int) = 0 from rfl, show U [] = [] from rfl, getI_lone] at h; cases h
      | cons d s =>
        rw [show ((0 : UInt8).toNat : Int) = 0 from rfl, U_cons] at h
        have hsn2 : s.length ≤ n := by simp at hsn; omega
        by_cases h255 : d = 255
        · subst h255
          rw [show ((255 : UInt8).toNat : Int) = 255 from rfl, getI_zero, show U part ++ [0] = U (part ++ [0]) from U_snoc part 0] at h
          have := get_back n s (part ++ [0]) acc l hsn2 h
          rw [← this, escL_append]; simp [escL]
        · by_cases h0 : d = 0
          · subst h0
            rw [show ((0 : UInt8).toNat : Int) = 0 from rfl, getI_part, str_U] at h
            have h : getI (U s) (U []) (acc ++ [⟨part.toArray⟩]) = some l := h
            have := get_back n s [] (acc ++ [⟨part.toArray⟩]) l hsn2 h
            rw [← this, bytesAll_append, putL_append, show bytesAll [(⟨part.toArray⟩ : ByteArray)] = [part] by simp [bytesAll], putL_cons, putL_nil, escL_nil]
            simp
          · rw [getI_bad h0 h255] at h; cases h
    · rw [getI_byte (fun e => hc ((byte_zero c).1 e)), U_snoc] at h
      have := get_back n s (part ++ [c]) acc l hsn h
      rw [← this, escL_append]
      have e : escL [c] = [c] := by rw [escL_cons, if_neg hc]; rfl
      rw [e]; simp

def GetOk (res : Option (List ByteArray)) (r : List ByteArray × Bool) : Prop := match res with | some l => r = (l, true) | none => r.2 = false
theorem rget_l (s : ByteArray) (hs : s.size ≤ 1099511627776) : ∀ (d i : Nat) (part : List UInt8) (acc : List ByteArray), i ≤ s.size → s.size - i ≤ d → part.length ≤ i → acc.length ≤ i →
    ∃ r, Ev (fun k => lunetteref01_Get.l0 k s acc (mk part) (decide (0 < part.length)) (i : Int)) r ∧ GetOk (getI (U (s.data.toList.drop i)) (U part) acc) r := by
  intro d
  induction d with
  | zero =>
    intro i part acc hi hd hp ha
    have hz : s.data.toList.drop i = [] := by rw [List.drop_eq_nil_iff, data_length]; omega
    refine ⟨(acc, !decide (0 < part.length)), Ev.step (f := fun _ => some (acc, !decide (0 < part.length))) (fun k => by simp only [lunetteref01_Get.l0]; rw [if_neg (by omega)]) (Ev.now _), ?_⟩
    rw [hz, show U [] = [] from rfl, getI_nil, U_length]
    by_cases h : part.length > 0
    · rw [if_pos h]; simp [GetOk, h]
    · rw [if_neg h, decide_eq_false h]; rfl
  | succ d ih =>
    intro i part acc hi hd hp ha
    by_cases hlt : i < s.size
    · have hw : wrap64 ((i : Int) + 1) = ((i + 1 : Nat) : Int) := by rw [w64 (by omega) (by omega)]; omega
      have hw2 : wrap64 (((i + 1 : Nat) : Int) + 1) = ((i + 2 : Nat) : Int) := by rw [w64 (by omega) (by omega)]; omega
      have hex : s.extract ((i : Int)).toNat (((i + 1 : Nat) : Int)).toNat = mk [s[i]] := by rw [Int.toNat_natCast, Int.toNat_natCast]; exact one_byte _ _ hlt
      rw [drop_byte s i hlt, U_cons]
      by_cases hc : s[i] = 0
      · have hb0 : bt s (i : Int) = 0 := by rw [bt_byte s i hlt]; exact (byte_zero _).2 hc
        rw [(byte_zero s[i]).2 hc]
        by_cases h1 : i + 1 < s.size
        · rw [drop_byte s (i + 1) h1, U_cons]
          have hbd := bt_byte s (i + 1) h1
          by_cases h255 : s[i + 1] = 255
          · have e255 : bt s ((i + 1 : Nat) : Int) = 255 := by rw [hbd]; exact (byte_255 _).2 h255
            rw [(byte_255 s[i + 1]).2 h255, getI_zero, show U part ++ [0] = U (part ++ [0]) from U_snoc part 0]
            obtain ⟨r, hr, hok⟩ := ih (i + 2) (part ++ [0]) acc (by omega) (by omega) (by rw [List.length_append, List.length_singleton]; omega) (by omega)
            refine ⟨r, ?_, hok⟩
            refine Ev.step (f := fun k => lunetteref01_Get.j1 k s acc (mk part) true (i : Int) false) (fun k => ?_) (Ev.step (f := fun k => lunetteref01_Get.l0 k s acc (mk (part ++ [0])) true ((i + 2 : Nat) : Int)) (fun k => ?_) ?_)
            · simp only [lunetteref01_Get.l0]
              rw [if_pos (by omega), if_pos (by omega), if_pos hb0, hw, if_neg (by omega), if_pos (by omega), if_pos (by omega), e255, if_neg (by decide)]
              rfl
            · simp only [lunetteref01_Get.j1]
              rw [if_neg (by decide), hw, if_pos (by omega), if_pos (by omega), e255, if_pos rfl, mk_size, if_pos (by omega), hw2]
              show lunetteref01_Get.l0 k s acc (mk part ++ mk [0]) true _ = _
              rw [mk_append]
            · have e1 : decide (0 < (part ++ [(0 : UInt8)]).length) = true := by simp
              rw [e1] at hr
              exact hr
          · by_cases h0 : s[i + 1] = 0
            · have e0 : bt s ((i + 1 : Nat) : Int) = 0 := by rw [hbd]; exact (byte_zero _).2 h0
              rw [(byte_zero s[i + 1]).2 h0, getI_part, str_U]
              obtain ⟨r, hr, hok⟩ := ih (i + 2) [] (acc ++ [mk part]) (by omega) (by omega) (by simp) (by rw [List.length_append, List.length_singleton]; omega)
              refine ⟨r, ?_, hok⟩
              refine Ev.step (f := fun k => lunetteref01_Get.j1 k s acc (mk part) true (i : Int) false) (fun k => ?_) (Ev.step (f := fun k => lunetteref01_Get.l0 k s (acc ++ [mk part]) (mk []) false ((i + 2 : Nat) : Int)) (fun k => ?_) ?_)
              · simp only [lunetteref01_Get.l0]
                rw [if_pos (by omega), if_pos (by omega), if_pos hb0, hw, if_neg (by omega), if_pos (by omega), if_pos (by omega), if_pos e0]
              · simp only [lunetteref01_Get.j1]
                rw [if_neg (by decide), hw, if_pos (by omega), if_pos (by omega), e0, if_neg (by decide), if_pos (by omega), hw2]
                rfl
              · exact hr
            · rw [getI_bad h0 h255]
              have n255 : ¬ bt s ((i + 1 : Nat) : Int) = 255 := by rw [hbd]; exact fun e => h255 ((byte_255 _).1 e)
              have n0 : ¬ bt s ((i + 1 : Nat) : Int) = 0 := by rw [hbd]; exact fun e => h0 ((byte_zero _).1 e)
              refine ⟨([], false), Ev.step (f := fun k => lunetteref01_Get.j1 k s acc (mk part) true (i : Int) true) (fun k => ?_) (Ev.step (f := fun _ => some ([], false)) (fun k => ?_) (Ev.now _)), rfl⟩
              · simp only [lunetteref01_Get.l0]
                rw [if_pos (by omega), if_pos (by omega), if_pos hb0, hw, if_neg (by omega), if_pos (by omega), if_pos (by omega), if_neg n0, show (bt s ((i + 1 : Nat) : Int) != 255) = true by simpa using n255]
              · simp only [lunetteref01_Get.j1]
                rw [if_pos trivial]
        · have hz : s.data.toList.drop (i + 1) = [] := by rw [List.drop_eq_nil_iff, data_length]; omega
          rw [hz, show U [] = [] from rfl, getI_lone]
          refine ⟨([], false), Ev.step (f := fun k => lunetteref01_Get.j1 k s acc (mk part) true (i : Int) true) (fun k => ?_) (Ev.step (f := fun _ => some ([], false)) (fun k => ?_) (Ev.now _)), rfl⟩
          · simp only [lunetteref01_Get.l0]
            rw [if_pos (by omega), if_pos (by omega), if_pos hb0, hw, if_pos (by omega)]
          · simp only [lunetteref01_Get.j1]
            rw [if_pos trivial]
      · have hb0 : ¬ bt s (i : Int) = 0 := by rw [bt_byte s i hlt]; exact fun e => hc ((byte_zero _).1 e)
        rw [getI_byte (fun e => hc ((byte_zero _).1 e)), U_snoc]
        obtain ⟨r, hr, hok⟩ := ih (i + 1) (part ++ [s[i]]) acc (by omega) (by omega) (by rw [List.length_append, List.length_singleton]; omega) (by omega)
        refine ⟨r, ?_, hok⟩
        refine Ev.step (f := fun k => lunetteref01_Get.l0 k s acc (mk (part ++ [s[i]])) true ((i + 1 : Nat) : Int)) (fun k => ?_) ?_
        · simp only [lunetteref01_Get.l0]
          rw [if_pos (by omega), if_pos (by omega), if_neg hb0, hw, if_pos (by omega), if_pos (by omega), hex, mk_size, mk_size, if_pos (by simp only [List.length_cons, List.length_nil]; omega), mk_append]
        · rw [show decide (0 < (part ++ [s[i]]).length) = true by simp] at hr
          exact hr
    · exact ih i part acc hi (by omega) hp ha
theorem keyGets_ev (a : ByteArray) : Ev (fun k => lunettelaw01_KeyGets.f k a) true := by
  unfold lunettelaw01_KeyGets.f
  by_cases h1 : (a.size : Int) > 2000
  · simp only [h1, if_true]; exact Ev.bind awake_ev (Ev.now _)
  · have hb : a.size ≤ 1099511627776 := by omega
    have hf : key_Get.f a = some (getR (getI (U a.data.toList) [] [])) := by unfold key_Get.f; rw [if_pos hb]; rfl
    obtain ⟨r, hr, hok⟩ := rget_l a hb a.size 0 [] [] (by omega) (by omega) (by simp) (by simp)
    rw [List.drop_zero] at hok
    simp only [h1, if_false, hf, Option.bind_some]
    refine Ev.bind (g := fun k => lunetteref01_Get.f k a) hr ?_
    cases hg : getI (U a.data.toList) [] [] with
    | some l =>
      rw [show U [] = [] from rfl, hg] at hok
      have hr2 : r = (l, true) := hok
      have hback := get_back a.data.toList.length a.data.toList [] [] l (Nat.le_refl _) hg
      have hback2 : a.data.toList = putL (bytesAll l) := by simpa [bytesAll, putL, escL] using hback
      have hpl : (putL (bytesAll l)).length ≤ 1099511627776 := by rw [← hback2, data_length]; exact hb
      have hll : l.length ≤ 9223372036854775807 := by
        have : ∀ l : List ByteArray, l.length ≤ (putL (bytesAll l)).length := by
          intro l
          induction l with
          | nil => simp
          | cons p l ih => rw [show bytesAll (p :: l) = p.data.toList :: bytesAll l from rfl, putL_cons]; simp only [List.length_append, List.length_cons, List.length_nil]; omega
        have := this l; omega
      simp only [hr2, if_true, getR]
      refine Ev.bind awake_ev ?_
      simp only [if_true]
      refine Ev.bind (same_ev l l hll) ?_
      simp only [decide_true, if_true, put_f hpl, Option.bind_some]
      have : ((⟨(putL (bytesAll l)).toArray⟩ : ByteArray).toList == a.toList) = true := by
        rw [beq_iff_eq, ByteArray.toList_eq, ByteArray.toList_eq, hback2]
      rw [this]; exact Ev.now _
    | none =>
      rw [show U [] = [] from rfl, hg] at hok
      have hr2 : r.2 = false := hok
      simp only [hr2, Bool.false_eq_true, if_false, getR]
      refine Ev.bind awake_ev ?_
      simp only [if_true, List.length_nil]
      exact Ev.now _
theorem keyGets_walk (w : World) (a0 : ByteArray) (_w0 : a0.size ≤ 140737488351232) :
    Calls Tryd.prog 4 #[.string a0] w fun e w' => e = .returned (.bool true) ∧ Below w.heap.size w w' := by
  obtain ⟨k, h⟩ := (keyGets_ev a0).rounds
  exact lunettelaw01_KeyGets.calls k a0 true w h
end Go.Proofs.YtbecojmhjkhifaaDoor.K
