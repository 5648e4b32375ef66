/- OfKey and the document's keys, as plain functions; conditions: as each states. -/
import Derived.Test.YtggcipjdhhnnkaaDoorTG6
import Derived.Test.YtggcipjdhhnnkaaDoorTG2
import Derived.Test.YtggcipjdhhnnkaaDoorTG9
import Derived.Test.YtggcipjdhhnnkaaDoorP5
import Derived.Test.YtggcipjdhhnnkaaDoorPMc
namespace Go.Proofs.YtggcipjdhhnnkaaDoor.K
set_option linter.unusedVariables false
set_option linter.unusedSimpArgs false
open Go.RowKit Go.Proofs.YtggcipjdhhnnkaaDoorW.PrintWords Go.Proofs.YtggcipjdhhnnkaaDoorW.PrintLast Go.Proofs.YtggcipjdhhnnkaaDoorW.PrintMore
open Go.Proofs.YtggcipjdhhnnkaaDoor.PL


abbrev KeyR := ByteArray × ByteArray × ByteArray × ByteArray × ByteArray × ByteArray × Bool × Int
def badK : KeyR := ((⟨#[]⟩ : ByteArray), (⟨#[]⟩ : ByteArray), (⟨#[]⟩ : ByteArray), (⟨#[]⟩ : ByteArray), (⟨#[]⟩ : ByteArray), (⟨#[]⟩ : ByteArray), false, 110)
def ofK7 (x0 x1 x2 x3 x4 x5 x6 : ByteArray) : KeyR :=
  if x0.toList = ([114] : List UInt8) then (if chkP x4 x5 x6 x1 x2 x3 = true then (x4, x5, x6, x1, x2, x3, true, 0) else badK)
  else if x0.toList = ([102] : List UInt8) then (if chkP x1 x2 x3 x4 x5 x6 = true then (x1, x2, x3, x4, x5, x6, false, 0) else badK) else badK
theorem j0_true (l : List ByteArray) : Ev (fun k => tuple_OfKey.j0 k l true) badK :=
  Ev.step (f := fun _ => some badK) (fun k => by simp only [tuple_OfKey.j0, if_true]; rfl) (Ev.now _)
theorem j1_ev (x0 x1 x2 x3 x4 x5 x6 a b c d e f : ByteArray) : Ev (fun k => tuple_OfKey.j1 k [x0, x1, x2, x3, x4, x5, x6] a b c d e f)
    (if chkP a b c d e f = true then (a, b, c, d, e, f, (x0.toList == ([114] : List UInt8)), 0) else badK) := by
  refine Ev.step (f := fun _ => some _) (fun k => ?_) (Ev.now _)
  simp only [tuple_OfKey.j1]
  have hl : (([x0, x1, x2, x3, x4, x5, x6] : List ByteArray).length : Int) = 7 := rfl
  have r0 : rdOf ByteArray.empty [x0, x1, x2, x3, x4, x5, x6] 0 = x0 := rfl
  rw [hl, r0, tcheck]
  simp only [Option.bind_some]
  by_cases h : chkP a b c d e f = true
  · simp only [h, if_true]; rfl
  · simp only [h, if_false]; rfl
theorem j0_false (x0 x1 x2 x3 x4 x5 x6 : ByteArray) : Ev (fun k => tuple_OfKey.j0 k [x0, x1, x2, x3, x4, x5, x6] false)
    (if x0.toList = ([114] : List UInt8) then (if chkP x4 x5 x6 x1 x2 x3 = true then (x4, x5, x6, x1, x2, x3, true, 0) else badK) else (if chkP x1 x2 x3 x4 x5 x6 = true then (x1, x2, x3, x4, x5, x6, false, 0) else badK)) := by
  have hl : (([x0, x1, x2, x3, x4, x5, x6] : List ByteArray).length : Int) = 7 := rfl
  have r0 : rdOf ByteArray.empty [x0, x1, x2, x3, x4, x5, x6] 0 = x0 := rfl
  have r1 : rdOf ByteArray.empty [x0, x1, x2, x3, x4, x5, x6] 1 = x1 := rfl
  have r2 : rdOf ByteArray.empty [x0, x1, x2, x3, x4, x5, x6] 2 = x2 := rfl
  have r3 : rdOf ByteArray.empty [x0, x1, x2, x3, x4, x5, x6] 3 = x3 := rfl
  have r4 : rdOf ByteArray.empty [x0, x1, x2, x3, x4, x5, x6] 4 = x4 := rfl
  have r5 : rdOf ByteArray.empty [x0, x1, x2, x3, x4, x5, x6] 5 = x5 := rfl
  have r6 : rdOf ByteArray.empty [x0, x1, x2, x3, x4, x5, x6] 6 = x6 := rfl
  by_cases h : x0.toList = ([114] : List UInt8)
  · refine Ev.step (f := fun k => tuple_OfKey.j1 k [x0, x1, x2, x3, x4, x5, x6] x4 x5 x6 x1 x2 x3) (fun k => ?_) ?_
    · simp only [tuple_OfKey.j0, Bool.false_eq_true, if_false]
      rw [hl, r0, r1, r2, r3, r4, r5, r6, if_pos (by decide), if_pos (by decide), if_pos (by decide), if_pos (by decide), if_pos (by decide), if_pos (by decide), if_pos (by decide), if_pos h]
    · have := j1_ev x0 x1 x2 x3 x4 x5 x6 x4 x5 x6 x1 x2 x3
      have hb : (x0.toList == ([114] : List UInt8)) = true := by simpa using h
      rw [hb] at this
      rw [if_pos h]
      exact this
  · refine Ev.step (f := fun k => tuple_OfKey.j1 k [x0, x1, x2, x3, x4, x5, x6] x1 x2 x3 x4 x5 x6) (fun k => ?_) ?_
    · simp only [tuple_OfKey.j0, Bool.false_eq_true, if_false]
      rw [hl, r0, r1, r2, r3, r4, r5, r6, if_pos (by decide), if_pos (by decide), if_pos (by decide), if_pos (by decide), if_pos (by decide), if_pos (by decide), if_pos (by decide), if_neg h]
    · have := j1_ev x0 x1 x2 x3 x4 x5 x6 x1 x2 x3 x4 x5 x6
      have hb : (x0.toList == ([114] : List UInt8)) = false := by simpa using h
      rw [hb] at this
      rw [if_neg h]
      exact this
def ofK (l : List ByteArray) (e : Int) : KeyR := if e = 0 then (match l with | [x0, x1, x2, x3, x4, x5, x6] => ofK7 x0 x1 x2 x3 x4 x5 x6 | _ => badK) else badK
theorem ofK_short (l : List ByteArray) (e : Int) (h : ¬ l.length = 7) : ofK l e = badK := by
  unfold ofK
  split
  · split
    · exact absurd rfl h
    · rfl
  · rfl
theorem seven {l : List ByteArray} (h : l.length = 7) : ∃ x0 x1 x2 x3 x4 x5 x6, l = [x0, x1, x2, x3, x4, x5, x6] := by
  match l, h with
  | [x0, x1, x2, x3, x4, x5, x6], _ => exact ⟨x0, x1, x2, x3, x4, x5, x6, rfl⟩
theorem ofkey_get {s : ByteArray} {l : List ByteArray} {e : Int} (hg : key_Get.f s = some (l, e)) : Ev (fun k => tuple_OfKey.f k s) (ofK l e) := by
  unfold tuple_OfKey.f
  rw [hg]
  simp only [Option.bind_some]
  by_cases he : e = 0
  · by_cases hl : l.length = 7
    · obtain ⟨x0, x1, x2, x3, x4, x5, x6, rfl⟩ := seven hl
      have hl2 : (([x0, x1, x2, x3, x4, x5, x6] : List ByteArray).length : Int) = 7 := rfl
      have r0 : rdOf ByteArray.empty [x0, x1, x2, x3, x4, x5, x6] 0 = x0 := rfl
      have hk : ofK [x0, x1, x2, x3, x4, x5, x6] e = ofK7 x0 x1 x2 x3 x4 x5 x6 := by unfold ofK; rw [if_pos he]
      rw [hk]
      simp only [he, hl2, r0, if_true]
      simp only [show ((0 : Int) < 7) = True from eq_true (by decide), if_true]
      by_cases h : x0.toList = ([102] : List UInt8)
      · have h2 : ¬ x0.toList = ([114] : List UInt8) := by rw [h]; decide
        simp only [h, if_true]
        have := j0_false x0 x1 x2 x3 x4 x5 x6
        unfold ofK7
        rw [if_neg h2] at this ⊢
        rw [if_pos h]
        exact this
      · simp only [h, if_false]
        by_cases h2 : x0.toList = ([114] : List UInt8)
        · have hb : (x0.toList != ([114] : List UInt8)) = false := by simpa using h2
          rw [hb]
          have := j0_false x0 x1 x2 x3 x4 x5 x6
          unfold ofK7
          rw [if_pos h2] at this ⊢
          exact this
        · have hb : (x0.toList != ([114] : List UInt8)) = true := by simpa using h2
          rw [hb]
          unfold ofK7
          rw [if_neg h2, if_neg h]
          exact j0_true _
    · have hl2 : ¬ (l.length : Int) = 7 := by omega
      simp only [he, hl2, if_true, if_false]
      rw [ofK_short l _ hl]
      exact j0_true l
  · simp only [he, if_false]
    rw [show ofK l e = badK by unfold ofK; rw [if_neg he]]
    exact j0_true l

theorem rkey_ev {a b c d e f : ByteArray} (h : chkP a b c d e f = true) : Ev (fun k => lunetteref11_Key.f k a b c d e f) (keyOf a b c d e f) := by
  have hs := (key_size h).1
  have hp := rput_ev [fPart, a, b, c, d, e, f] (by omega)
  unfold lunetteref11_Key.f
  have z : ([(⟨#[102]⟩ : ByteArray)] : List ByteArray).length + ([a, b, c, d, e, f] : List ByteArray).length < 8796093022208 := by simp
  simp only [Option.bind_some, lunetteref11_Parts.f, z, if_true]
  exact Ev.bind hp (Ev.now _)
theorem rback_ev {a b c d e f : ByteArray} (h : chkP a b c d e f = true) : Ev (fun k => lunetteref11_Back.f k a b c d e f) (backOf a b c d e f) := by
  have hs := key_size h
  have hp := rput_ev [rPart, d, e, f, a, b, c] (by omega)
  unfold lunetteref11_Back.f
  exact Ev.bind hp (Ev.now _)
theorem of_key {a b c d e f : ByteArray} (h : chkP a b c d e f = true) : Ev (fun k => tuple_OfKey.f k (keyOf a b c d e f)) (a, b, c, d, e, f, false, 0) := by
  have hs := (key_size h).1
  have hg := get_f_put (l := [fPart, a, b, c, d, e, f]) (by omega)
  have := ofkey_get hg
  have e1 : ofK [fPart, a, b, c, d, e, f] 0 = (a, b, c, d, e, f, false, 0) := by
    unfold ofK ofK7
    have n1 : ¬ fPart.toList = ([114] : List UInt8) := by decide +kernel
    have n2 : fPart.toList = ([102] : List UInt8) := by decide +kernel
    rw [if_pos rfl]; simp only []
    rw [if_neg n1, if_pos n2, if_pos h]
  rw [e1] at this
  exact this
theorem of_back {a b c d e f : ByteArray} (h : chkP a b c d e f = true) : Ev (fun k => tuple_OfKey.f k (backOf a b c d e f)) (a, b, c, d, e, f, true, 0) := by
  have hs := key_size h
  have hg := get_f_put (l := [rPart, d, e, f, a, b, c]) (by omega)
  have := ofkey_get hg
  have e1 : ofK [rPart, d, e, f, a, b, c] 0 = (a, b, c, d, e, f, true, 0) := by
    unfold ofK ofK7
    have n1 : rPart.toList = ([114] : List UInt8) := by decide +kernel
    rw [if_pos rfl]; simp only []
    rw [if_pos n1, if_pos h]
  rw [e1] at this
  exact this
/-- What OfKey gives of any text that isn't too long. -/
theorem ofkey_any (s : ByteArray) (hs : s.size ≤ 1099511627776) : ∃ r, Ev (fun k => tuple_OfKey.f k s) r ∧ (r = badK ∨ ∃ a b c d e f, chkP a b c d e f = true ∧ ((r = (a, b, c, d, e, f, false, 0) ∧ s = keyOf a b c d e f) ∨ (r = (a, b, c, d, e, f, true, 0) ∧ s = backOf a b c d e f))) := by
  have hf : key_Get.f s = some (getR (getI (U s.data.toList) [] [])) := by unfold key_Get.f; rw [if_pos hs]; rfl
  cases hg : getI (U s.data.toList) [] [] with
  | none =>
    rw [hg] at hf
    exact ⟨_, ofkey_get hf, Or.inl rfl⟩
  | some l =>
    rw [hg] at hf
    have hback := get_back s.data.toList.length s.data.toList [] [] l (Nat.le_refl _) hg
    have hs2 : s = mk (putL (bytesAll l)) := by
      apply data_inj; rw [mk_data]; simpa [bytesAll, putL, escL] using hback
    refine ⟨_, ofkey_get hf, ?_⟩
    by_cases hl : l.length = 7
    · obtain ⟨x0, x1, x2, x3, x4, x5, x6, rfl⟩ := seven hl
      have hk : ofK [x0, x1, x2, x3, x4, x5, x6] 0 = ofK7 x0 x1 x2 x3 x4 x5 x6 := by unfold ofK; rw [if_pos rfl]
      rw [hk]
      unfold ofK7
      by_cases h : x0.toList = ([114] : List UInt8)
      · rw [if_pos h]
        by_cases h2 : chkP x4 x5 x6 x1 x2 x3 = true
        · rw [if_pos h2]
          have hx : x0 = rPart := bytes_eq (h.trans (by decide +kernel))
          exact Or.inr ⟨x4, x5, x6, x1, x2, x3, h2, Or.inr ⟨rfl, by rw [hs2, hx]; rfl⟩⟩
        · rw [if_neg h2]; exact Or.inl rfl
      · rw [if_neg h]
        by_cases h1 : x0.toList = ([102] : List UInt8)
        · rw [if_pos h1]
          by_cases h2 : chkP x1 x2 x3 x4 x5 x6 = true
          · rw [if_pos h2]
            have hx : x0 = fPart := bytes_eq (h1.trans (by decide +kernel))
            exact Or.inr ⟨x1, x2, x3, x4, x5, x6, h2, Or.inl ⟨rfl, by rw [hs2, hx]; rfl⟩⟩
          · rw [if_neg h2]; exact Or.inl rfl
        · rw [if_neg h1]; exact Or.inl rfl
    · rw [ofK_short l _ hl]; exact Or.inl rfl
theorem chk_small {a b c d e f : ByteArray} (h : chkP a b c d e f = true) : Ev (fun k => lunetteref11_Check.f k a b c d e f) true := by
  obtain ⟨u, v, _⟩ := chk_parts h
  have := u.sa; have := u.sb; have := u.sc; have := v.sa; have := v.sb; have := v.sc
  have := rcheck_ev a b c d e f (by omega) (by omega) (by omega) (by omega) (by omega) (by omega)
  rw [h] at this
  exact this
end Go.Proofs.YtggcipjdhhnnkaaDoor.K
