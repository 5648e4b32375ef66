/- Texts of this claim's proof, put together: HX HN HY HW HZ HE HV HU HT HS HR; conditions: as each states. -/
import Derived.Test.YtjcipbdocbomjaaGreatDoorZ1
import Derived.WalkLawsBesides
import Derived.OneCell
import Derived.Lib.Hide
import Derived.Outline
import Derived.Laws.RangeString
import Derived.Laws.RangeAny
set_option linter.unusedVariables false
set_option linter.unusedSimpArgs false
open Go.RowKit Go.Proofs.YtjcipbdocbomjaaGreatDoorW.PrintWords Go.Proofs.YtjcipbdocbomjaaGreatDoorW.PrintLast Go.Proofs.YtjcipbdocbomjaaGreatDoorW.PrintMore
namespace Go.Proofs.YtjcipbdocbomjaaGreatDoor.K
def idxP {α : Type} (P : α → Bool) (l : List α) : Int := match l.findIdx? P with | some i => (i : Int) | none => -1
theorem idxP_found {α : Type} (P : α → Bool) (l : List α) (i : Nat) (hi : i < l.length) (h : P l[i] = true) (hb : ∀ j (hj : j < i), P (l[j]'(by omega)) = false) : idxP P l = (i : Int) := by
 unfold idxP
 have : l.findIdx? P = some i := by
  rw [List.findIdx?_eq_some_iff_getElem]
  exact ⟨hi, h, fun j hj => by rw [hb j hj]; simp⟩
 rw [this]
theorem idxP_none {α : Type} (P : α → Bool) (l : List α) (hb : ∀ j (hj : j < l.length), P (l[j]'hj) = false) : idxP P l = -1 := by
 unfold idxP
 have : l.findIdx? P = none := by
  rw [List.findIdx?_eq_none_iff]
  intro x hx
  obtain ⟨j, hj, rfl⟩ := List.getElem_of_mem hx
  exact hb j hj
 rw [this]
theorem rd_some {α : Type} (z : α) (l : List α) (i : Nat) (h : i < l.length) : l.getD ((i : Int)).toNat z = l[i] := by simp [h]
theorem idxP_any {α : Type} (P : α → Bool) (l : List α) : decide (idxP P l ≥ 0) = l.any P := by
 unfold idxP
 cases h : l.findIdx? P with
 | none =>
  rw [List.findIdx?_eq_none_iff] at h
  have : l.any P = false := by
   rw [← Bool.not_eq_true, List.any_eq_true]
   rintro ⟨x, hx, hp⟩
   rw [h x hx] at hp; cases hp
  rw [this]; rfl
 | some i =>
  rw [List.findIdx?_eq_some_iff_getElem] at h
  obtain ⟨hi, hp, _⟩ := h
  have : l.any P = true := List.any_eq_true.mpr ⟨l[i], List.getElem_mem hi, hp⟩
  rw [this]; simp
set_option maxHeartbeats 1000000 in
set_option maxRecDepth 100000 in
theorem indexFunc_35_41 (A0 : Option Addr) (c0 : Nat) (l : List S30)  (P : S30 → Bool) (w : World) (hr : Kd.C k30 w A0 l.length l) (hm : l.length ≤ 1099511627776)
  (hF : ∀ x ∈ l, ∀ (A1 : Option Addr) (c1 : Nat) (w1 : World), Below w.heap.size w w1 → x.f1.length ≤ c1 → k35.C w1 A1 x.f1.length x.f1 → Calls Tryz.prog 41 #[.agg #[.string x.f0, .slice A1 x.f1.length c1]] w1 fun e w2 => e = .returned (.bool (P x)) ∧ Below w.heap.size w1 w2) :
  Calls Tryz.prog 35 #[.slice A0 l.length c0, .func (.func 41) #[] #[]] w fun e w' => e = .returned (.int .i64 (idxP P l)) ∧ Below w.heap.size w w' := by
 have HR := Aside0.mk hr
 have HF := Aside0.mk hF
 clear hr hF
 go_enter Tryz.func35, Tryz.ntmps35
 go_wp2_with fail
 go_loopg [4, 8] l.length (fun g s4 s8 wx => ∃ (i : Nat), s8 = .int .i64 i ∧ i + g = l.length ∧ Aside0 (∀ j (hj : j < i) (hl : j < l.length), P (l[j]'hl) = false) ∧ Aside0 (Below w.heap.size w wx))
 case atStart => exact ⟨0, rfl, by omega, ⟨fun j hj => by omega⟩, ⟨Below.refl _ _⟩⟩
 case round =>
  obtain ⟨i, rfl, hig, HB, HW⟩ := hrel
  cases gk with
  | zero =>
   have hiK : ¬ ((i : Int) < (l.length : Int)) := by omega
   have hn := Aside0.mk (idxP_none P l (fun j hj => HB.out j (by omega) hj))
   go_wp2_with fail
   go_ret
   rw [hn.out]
   exact ⟨rfl, HW.out⟩
  | succ g =>
   have hlt : i < l.length := by omega
   have hiK : (i : Int) < (l.length : Int) := by omega
   have hi0 : (0 : Int) ≤ (i : Int) := by omega
   obtain ⟨ad, A1, c1, rfl, hx0, hx1, hl1, hg1⟩ := at_T30 (Kd.C_below HR.out HW.out) (i : Int) hi0 hiK
   have hel : rd_T30 l (i : Int) = l[i] := rd_some z30 l i hlt
   rw [hel] at hx0 hx1 hl1 hg1
   rw [Int.toNat_natCast] at hx0 hx1
   have HL := Aside0.mk hl1
   have HG := Aside0.mk hg1
   clear hl1 hg1 hel
   have hmem := Aside0.mk (List.getElem_mem hlt)
   obtain ⟨x, hx⟩ : ∃ x, l[i] = x := ⟨_, rfl⟩
   rw [hx] at hx0 hx1 HL HG hmem
   rcases Bool.eq_false_or_eq_true (P x) with hp | hp
   ·have hn := Aside0.mk (idxP_found P l i hlt (by rw [hx]; exact hp) (fun j hj => HB.out j hj (by omega)))
    clear hx
    go_wp2_with (go_at_call 41; refine (HF.out x hmem.out A1 c1 _ HW.out HL.out HG.out).mono ?_; rintro e w2 ⟨rfl, hb2⟩; rw [hp])
    go_ret
    rw [hn.out]
    exact ⟨rfl, HW.out.trans hb2⟩
   ·have hn := Aside0.mk (show P l[i] = false by rw [hx]; exact hp)
    clear hx
    go_wp2_with (go_at_call 41; refine (HF.out x hmem.out A1 c1 _ HW.out HL.out HG.out).mono ?_; rintro e w2 ⟨rfl, hb2⟩; rw [hp]; have Hb2 := Aside0.mk (HW.out.trans hb2); clear hb2)
    go_roundg g
    case measure => omega
    case rel => exact ⟨i + 1, by (rfl), by omega, ⟨fun j hj hl => by
     by_cases e : j = i
     ·subst e; exact hn.out
     ·exact HB.out j (by omega) hl⟩, Hb2⟩
set_option maxHeartbeats 1000000 in
set_option maxRecDepth 100000 in
theorem indexFunc_57_60 (A0 : Option Addr) (c0 : Nat) (l : List S35) (b b2 : Nat) (P : S35 → Bool) (w : World) (hr : Kd.C k35 w A0 l.length l) (hm : l.length ≤ 1099511627776)
  (hF : ∀ x ∈ l, ∀ (A1 : Option Addr) (c1 : Nat) (w1 : World), Below w.heap.size w w1 → x.f1.f3.length ≤ c1 → k33.C w1 A1 x.f1.f3.length x.f1.f3 → Calls Tryz.prog 60 #[.agg #[.string x.f0, .string x.f1.f0, .string x.f1.f1, .string x.f1.f2, .slice A1 x.f1.f3.length c1], .pointer (some ⟨b, 0, none⟩), .pointer (some ⟨b2, 0, none⟩)] w1 fun e w2 => e = .returned (.bool (P x)) ∧ Below w.heap.size w1 w2) :
  Calls Tryz.prog 57 #[.slice A0 l.length c0, .func (.func 60) #[] #[.pointer (some ⟨b, 0, none⟩), .pointer (some ⟨b2, 0, none⟩)]] w fun e w' => e = .returned (.int .i64 (idxP P l)) ∧ Below w.heap.size w w' := by
 have HR := Aside0.mk hr
 have HF := Aside0.mk hF
 clear hr hF
 go_enter Tryz.func57, Tryz.ntmps57
 go_wp2_with fail
 go_loopg [4, 8] l.length (fun g s4 s8 wx => ∃ (i : Nat), s8 = .int .i64 i ∧ i + g = l.length ∧ Aside0 (∀ j (hj : j < i) (hl : j < l.length), P (l[j]'hl) = false) ∧ Aside0 (Below w.heap.size w wx))
 case atStart => exact ⟨0, rfl, by omega, ⟨fun j hj => by omega⟩, ⟨Below.refl _ _⟩⟩
 case round =>
  obtain ⟨i, rfl, hig, HB, HW⟩ := hrel
  cases gk with
  | zero =>
   have hiK : ¬ ((i : Int) < (l.length : Int)) := by omega
   have hn := Aside0.mk (idxP_none P l (fun j hj => HB.out j (by omega) hj))
   go_wp2_with fail
   go_ret
   rw [hn.out]
   exact ⟨rfl, HW.out⟩
  | succ g =>
   have hlt : i < l.length := by omega
   have hiK : (i : Int) < (l.length : Int) := by omega
   have hi0 : (0 : Int) ≤ (i : Int) := by omega
   obtain ⟨ad, A1, c1, rfl, hx0, hx1, hx2, hx3, hx4, hl1, hg1⟩ := at_T35 (Kd.C_below HR.out HW.out) (i : Int) hi0 hiK
   have hel : rd_T35 l (i : Int) = l[i] := rd_some z35 l i hlt
   rw [hel] at hx0 hx1 hx2 hx3 hx4 hl1 hg1
   rw [Int.toNat_natCast] at hx0 hx1 hx2 hx3 hx4
   have HL := Aside0.mk hl1
   have HG := Aside0.mk hg1
   clear hl1 hg1 hel
   have hmem := Aside0.mk (List.getElem_mem hlt)
   obtain ⟨x, hx⟩ : ∃ x, l[i] = x := ⟨_, rfl⟩
   rw [hx] at hx0 hx1 hx2 hx3 hx4 HL HG hmem
   rcases Bool.eq_false_or_eq_true (P x) with hp | hp
   ·have hn := Aside0.mk (idxP_found P l i hlt (by rw [hx]; exact hp) (fun j hj => HB.out j hj (by omega)))
    clear hx
    go_wp2_with (go_at_call 60; refine (HF.out x hmem.out A1 c1 _ HW.out HL.out HG.out).mono ?_; rintro e w2 ⟨rfl, hb2⟩; rw [hp])
    go_ret
    rw [hn.out]
    exact ⟨rfl, HW.out.trans hb2⟩
   ·have hn := Aside0.mk (show P l[i] = false by rw [hx]; exact hp)
    clear hx
    go_wp2_with (go_at_call 60; refine (HF.out x hmem.out A1 c1 _ HW.out HL.out HG.out).mono ?_; rintro e w2 ⟨rfl, hb2⟩; rw [hp]; have Hb2 := Aside0.mk (HW.out.trans hb2); clear hb2)
    go_roundg g
    case measure => omega
    case rel => exact ⟨i + 1, by (rfl), by omega, ⟨fun j hj hl => by
     by_cases e : j = i
     ·subst e; exact hn.out
     ·exact HB.out j (by omega) hl⟩, Hb2⟩
set_option maxHeartbeats 1000000 in
set_option maxRecDepth 100000 in
theorem indexFunc_57_58 (A0 : Option Addr) (c0 : Nat) (l : List S35) (b : Nat) (P : S35 → Bool) (w : World) (hr : Kd.C k35 w A0 l.length l) (hm : l.length ≤ 1099511627776)
  (hF : ∀ x ∈ l, ∀ (A1 : Option Addr) (c1 : Nat) (w1 : World), Below w.heap.size w w1 → x.f1.f3.length ≤ c1 → k33.C w1 A1 x.f1.f3.length x.f1.f3 → Calls Tryz.prog 58 #[.agg #[.string x.f0, .string x.f1.f0, .string x.f1.f1, .string x.f1.f2, .slice A1 x.f1.f3.length c1], .pointer (some ⟨b, 0, none⟩)] w1 fun e w2 => e = .returned (.bool (P x)) ∧ Below w.heap.size w1 w2) :
  Calls Tryz.prog 57 #[.slice A0 l.length c0, .func (.func 58) #[] #[.pointer (some ⟨b, 0, none⟩)]] w fun e w' => e = .returned (.int .i64 (idxP P l)) ∧ Below w.heap.size w w' := by
 have HR := Aside0.mk hr
 have HF := Aside0.mk hF
 clear hr hF
 go_enter Tryz.func57, Tryz.ntmps57
 go_wp2_with fail
 go_loopg [4, 8] l.length (fun g s4 s8 wx => ∃ (i : Nat), s8 = .int .i64 i ∧ i + g = l.length ∧ Aside0 (∀ j (hj : j < i) (hl : j < l.length), P (l[j]'hl) = false) ∧ Aside0 (Below w.heap.size w wx))
 case atStart => exact ⟨0, rfl, by omega, ⟨fun j hj => by omega⟩, ⟨Below.refl _ _⟩⟩
 case round =>
  obtain ⟨i, rfl, hig, HB, HW⟩ := hrel
  cases gk with
  | zero =>
   have hiK : ¬ ((i : Int) < (l.length : Int)) := by omega
   have hn := Aside0.mk (idxP_none P l (fun j hj => HB.out j (by omega) hj))
   go_wp2_with fail
   go_ret
   rw [hn.out]
   exact ⟨rfl, HW.out⟩
  | succ g =>
   have hlt : i < l.length := by omega
   have hiK : (i : Int) < (l.length : Int) := by omega
   have hi0 : (0 : Int) ≤ (i : Int) := by omega
   obtain ⟨ad, A1, c1, rfl, hx0, hx1, hx2, hx3, hx4, hl1, hg1⟩ := at_T35 (Kd.C_below HR.out HW.out) (i : Int) hi0 hiK
   have hel : rd_T35 l (i : Int) = l[i] := rd_some z35 l i hlt
   rw [hel] at hx0 hx1 hx2 hx3 hx4 hl1 hg1
   rw [Int.toNat_natCast] at hx0 hx1 hx2 hx3 hx4
   have HL := Aside0.mk hl1
   have HG := Aside0.mk hg1
   clear hl1 hg1 hel
   have hmem := Aside0.mk (List.getElem_mem hlt)
   obtain ⟨x, hx⟩ : ∃ x, l[i] = x := ⟨_, rfl⟩
   rw [hx] at hx0 hx1 hx2 hx3 hx4 HL HG hmem
   rcases Bool.eq_false_or_eq_true (P x) with hp | hp
   ·have hn := Aside0.mk (idxP_found P l i hlt (by rw [hx]; exact hp) (fun j hj => HB.out j hj (by omega)))
    clear hx
    go_wp2_with (go_at_call 58; refine (HF.out x hmem.out A1 c1 _ HW.out HL.out HG.out).mono ?_; rintro e w2 ⟨rfl, hb2⟩; rw [hp])
    go_ret
    rw [hn.out]
    exact ⟨rfl, HW.out.trans hb2⟩
   ·have hn := Aside0.mk (show P l[i] = false by rw [hx]; exact hp)
    clear hx
    go_wp2_with (go_at_call 58; refine (HF.out x hmem.out A1 c1 _ HW.out HL.out HG.out).mono ?_; rintro e w2 ⟨rfl, hb2⟩; rw [hp]; have Hb2 := Aside0.mk (HW.out.trans hb2); clear hb2)
    go_roundg g
    case measure => omega
    case rel => exact ⟨i + 1, by (rfl), by omega, ⟨fun j hj hl => by
     by_cases e : j = i
     ·subst e; exact hn.out
     ·exact HB.out j (by omega) hl⟩, Hb2⟩
set_option maxHeartbeats 1000000 in
set_option maxRecDepth 100000 in
theorem indexFunc_35_36 (A0 : Option Addr) (c0 : Nat) (l : List S30) (b : Nat) (P : S30 → Bool) (w : World) (hr : Kd.C k30 w A0 l.length l) (hm : l.length ≤ 1099511627776)
  (hF : ∀ x ∈ l, ∀ (A1 : Option Addr) (c1 : Nat) (w1 : World), Below w.heap.size w w1 → x.f1.length ≤ c1 → k35.C w1 A1 x.f1.length x.f1 → Calls Tryz.prog 36 #[.agg #[.string x.f0, .slice A1 x.f1.length c1], .pointer (some ⟨b, 0, none⟩)] w1 fun e w2 => e = .returned (.bool (P x)) ∧ Below w.heap.size w1 w2) :
  Calls Tryz.prog 35 #[.slice A0 l.length c0, .func (.func 36) #[] #[.pointer (some ⟨b, 0, none⟩)]] w fun e w' => e = .returned (.int .i64 (idxP P l)) ∧ Below w.heap.size w w' := by
 have HR := Aside0.mk hr
 have HF := Aside0.mk hF
 clear hr hF
 go_enter Tryz.func35, Tryz.ntmps35
 go_wp2_with fail
 go_loopg [4, 8] l.length (fun g s4 s8 wx => ∃ (i : Nat), s8 = .int .i64 i ∧ i + g = l.length ∧ Aside0 (∀ j (hj : j < i) (hl : j < l.length), P (l[j]'hl) = false) ∧ Aside0 (Below w.heap.size w wx))
 case atStart => exact ⟨0, rfl, by omega, ⟨fun j hj => by omega⟩, ⟨Below.refl _ _⟩⟩
 case round =>
  obtain ⟨i, rfl, hig, HB, HW⟩ := hrel
  cases gk with
  | zero =>
   have hiK : ¬ ((i : Int) < (l.length : Int)) := by omega
   have hn := Aside0.mk (idxP_none P l (fun j hj => HB.out j (by omega) hj))
   go_wp2_with fail
   go_ret
   rw [hn.out]
   exact ⟨rfl, HW.out⟩
  | succ g =>
   have hlt : i < l.length := by omega
   have hiK : (i : Int) < (l.length : Int) := by omega
   have hi0 : (0 : Int) ≤ (i : Int) := by omega
   obtain ⟨ad, A1, c1, rfl, hx0, hx1, hl1, hg1⟩ := at_T30 (Kd.C_below HR.out HW.out) (i : Int) hi0 hiK
   have hel : rd_T30 l (i : Int) = l[i] := rd_some z30 l i hlt
   rw [hel] at hx0 hx1 hl1 hg1
   rw [Int.toNat_natCast] at hx0 hx1
   have HL := Aside0.mk hl1
   have HG := Aside0.mk hg1
   clear hl1 hg1 hel
   have hmem := Aside0.mk (List.getElem_mem hlt)
   obtain ⟨x, hx⟩ : ∃ x, l[i] = x := ⟨_, rfl⟩
   rw [hx] at hx0 hx1 HL HG hmem
   rcases Bool.eq_false_or_eq_true (P x) with hp | hp
   ·have hn := Aside0.mk (idxP_found P l i hlt (by rw [hx]; exact hp) (fun j hj => HB.out j hj (by omega)))
    clear hx
    go_wp2_with (go_at_call 36; refine (HF.out x hmem.out A1 c1 _ HW.out HL.out HG.out).mono ?_; rintro e w2 ⟨rfl, hb2⟩; rw [hp])
    go_ret
    rw [hn.out]
    exact ⟨rfl, HW.out.trans hb2⟩
   ·have hn := Aside0.mk (show P l[i] = false by rw [hx]; exact hp)
    clear hx
    go_wp2_with (go_at_call 36; refine (HF.out x hmem.out A1 c1 _ HW.out HL.out HG.out).mono ?_; rintro e w2 ⟨rfl, hb2⟩; rw [hp]; have Hb2 := Aside0.mk (HW.out.trans hb2); clear hb2)
    go_roundg g
    case measure => omega
    case rel => exact ⟨i + 1, by (rfl), by omega, ⟨fun j hj hl => by
     by_cases e : j = i
     ·subst e; exact hn.out
     ·exact HB.out j (by omega) hl⟩, Hb2⟩
set_option maxHeartbeats 1000000 in
set_option maxRecDepth 100000 in
theorem indexFunc_35_64 (A0 : Option Addr) (c0 : Nat) (l : List S30) (b : Nat) (P : S30 → Bool) (w : World) (hr : Kd.C k30 w A0 l.length l) (hm : l.length ≤ 1099511627776)
  (hF : ∀ x ∈ l, ∀ (A1 : Option Addr) (c1 : Nat) (w1 : World), Below w.heap.size w w1 → x.f1.length ≤ c1 → k35.C w1 A1 x.f1.length x.f1 → Calls Tryz.prog 64 #[.agg #[.string x.f0, .slice A1 x.f1.length c1], .pointer (some ⟨b, 0, none⟩)] w1 fun e w2 => e = .returned (.bool (P x)) ∧ Below w.heap.size w1 w2) :
  Calls Tryz.prog 35 #[.slice A0 l.length c0, .func (.func 64) #[] #[.pointer (some ⟨b, 0, none⟩)]] w fun e w' => e = .returned (.int .i64 (idxP P l)) ∧ Below w.heap.size w w' := by
 have HR := Aside0.mk hr
 have HF := Aside0.mk hF
 clear hr hF
 go_enter Tryz.func35, Tryz.ntmps35
 go_wp2_with fail
 go_loopg [4, 8] l.length (fun g s4 s8 wx => ∃ (i : Nat), s8 = .int .i64 i ∧ i + g = l.length ∧ Aside0 (∀ j (hj : j < i) (hl : j < l.length), P (l[j]'hl) = false) ∧ Aside0 (Below w.heap.size w wx))
 case atStart => exact ⟨0, rfl, by omega, ⟨fun j hj => by omega⟩, ⟨Below.refl _ _⟩⟩
 case round =>
  obtain ⟨i, rfl, hig, HB, HW⟩ := hrel
  cases gk with
  | zero =>
   have hiK : ¬ ((i : Int) < (l.length : Int)) := by omega
   have hn := Aside0.mk (idxP_none P l (fun j hj => HB.out j (by omega) hj))
   go_wp2_with fail
   go_ret
   rw [hn.out]
   exact ⟨rfl, HW.out⟩
  | succ g =>
   have hlt : i < l.length := by omega
   have hiK : (i : Int) < (l.length : Int) := by omega
   have hi0 : (0 : Int) ≤ (i : Int) := by omega
   obtain ⟨ad, A1, c1, rfl, hx0, hx1, hl1, hg1⟩ := at_T30 (Kd.C_below HR.out HW.out) (i : Int) hi0 hiK
   have hel : rd_T30 l (i : Int) = l[i] := rd_some z30 l i hlt
   rw [hel] at hx0 hx1 hl1 hg1
   rw [Int.toNat_natCast] at hx0 hx1
   have HL := Aside0.mk hl1
   have HG := Aside0.mk hg1
   clear hl1 hg1 hel
   have hmem := Aside0.mk (List.getElem_mem hlt)
   obtain ⟨x, hx⟩ : ∃ x, l[i] = x := ⟨_, rfl⟩
   rw [hx] at hx0 hx1 HL HG hmem
   rcases Bool.eq_false_or_eq_true (P x) with hp | hp
   ·have hn := Aside0.mk (idxP_found P l i hlt (by rw [hx]; exact hp) (fun j hj => HB.out j hj (by omega)))
    clear hx
    go_wp2_with (go_at_call 64; refine (HF.out x hmem.out A1 c1 _ HW.out HL.out HG.out).mono ?_; rintro e w2 ⟨rfl, hb2⟩; rw [hp])
    go_ret
    rw [hn.out]
    exact ⟨rfl, HW.out.trans hb2⟩
   ·have hn := Aside0.mk (show P l[i] = false by rw [hx]; exact hp)
    clear hx
    go_wp2_with (go_at_call 64; refine (HF.out x hmem.out A1 c1 _ HW.out HL.out HG.out).mono ?_; rintro e w2 ⟨rfl, hb2⟩; rw [hp]; have Hb2 := Aside0.mk (HW.out.trans hb2); clear hb2)
    go_roundg g
    case measure => omega
    case rel => exact ⟨i + 1, by (rfl), by omega, ⟨fun j hj hl => by
     by_cases e : j = i
     ·subst e; exact hn.out
     ·exact HB.out j (by omega) hl⟩, Hb2⟩
set_option maxHeartbeats 1000000 in
set_option maxRecDepth 100000 in
theorem indexFunc_76_62 (A0 : Option Addr) (c0 : Nat) (l : List S33) (b : Nat) (P : S33 → Bool) (w : World) (hr : Kd.C k33 w A0 l.length l) (hm : l.length ≤ 1099511627776)
  (hF : ∀ x ∈ l, ∀ (A1 : Option Addr) (c1 : Nat) (w1 : World), Below w.heap.size w w1 → x.f3.length ≤ c1 → k33.C w1 A1 x.f3.length x.f3 → Calls Tryz.prog 62 #[.agg #[.string x.f0, .string x.f1, .string x.f2, .slice A1 x.f3.length c1], .pointer (some ⟨b, 0, none⟩)] w1 fun e w2 => e = .returned (.bool (P x)) ∧ Below w.heap.size w1 w2) :
  Calls Tryz.prog 76 #[.slice A0 l.length c0, .func (.func 62) #[] #[.pointer (some ⟨b, 0, none⟩)]] w fun e w' => e = .returned (.int .i64 (idxP P l)) ∧ Below w.heap.size w w' := by
 have HR := Aside0.mk hr
 have HF := Aside0.mk hF
 clear hr hF
 go_enter Tryz.func76, Tryz.ntmps76
 go_wp2_with fail
 go_loopg [4, 8] l.length (fun g s4 s8 wx => ∃ (i : Nat), s8 = .int .i64 i ∧ i + g = l.length ∧ Aside0 (∀ j (hj : j < i) (hl : j < l.length), P (l[j]'hl) = false) ∧ Aside0 (Below w.heap.size w wx))
 case atStart => exact ⟨0, rfl, by omega, ⟨fun j hj => by omega⟩, ⟨Below.refl _ _⟩⟩
 case round =>
  obtain ⟨i, rfl, hig, HB, HW⟩ := hrel
  cases gk with
  | zero =>
   have hiK : ¬ ((i : Int) < (l.length : Int)) := by omega
   have hn := Aside0.mk (idxP_none P l (fun j hj => HB.out j (by omega) hj))
   go_wp2_with fail
   go_ret
   rw [hn.out]
   exact ⟨rfl, HW.out⟩
  | succ g =>
   have hlt : i < l.length := by omega
   have hiK : (i : Int) < (l.length : Int) := by omega
   have hi0 : (0 : Int) ≤ (i : Int) := by omega
   obtain ⟨ad, A1, c1, rfl, hx0, hx1, hx2, hx3, hl1, hg1⟩ := at_T33 (Kd.C_below HR.out HW.out) (i : Int) hi0 hiK
   have hel : rd_T33 l (i : Int) = l[i] := rd_some z33 l i hlt
   rw [hel] at hx0 hx1 hx2 hx3 hl1 hg1
   rw [Int.toNat_natCast] at hx0 hx1 hx2 hx3
   have HL := Aside0.mk hl1
   have HG := Aside0.mk hg1
   clear hl1 hg1 hel
   have hmem := Aside0.mk (List.getElem_mem hlt)
   obtain ⟨x, hx⟩ : ∃ x, l[i] = x := ⟨_, rfl⟩
   rw [hx] at hx0 hx1 hx2 hx3 HL HG hmem
   rcases Bool.eq_false_or_eq_true (P x) with hp | hp
   ·have hn := Aside0.mk (idxP_found P l i hlt (by rw [hx]; exact hp) (fun j hj => HB.out j hj (by omega)))
    clear hx
    go_wp2_with (go_at_call 62; refine (HF.out x hmem.out A1 c1 _ HW.out HL.out HG.out).mono ?_; rintro e w2 ⟨rfl, hb2⟩; rw [hp])
    go_ret
    rw [hn.out]
    exact ⟨rfl, HW.out.trans hb2⟩
   ·have hn := Aside0.mk (show P l[i] = false by rw [hx]; exact hp)
    clear hx
    go_wp2_with (go_at_call 62; refine (HF.out x hmem.out A1 c1 _ HW.out HL.out HG.out).mono ?_; rintro e w2 ⟨rfl, hb2⟩; rw [hp]; have Hb2 := Aside0.mk (HW.out.trans hb2); clear hb2)
    go_roundg g
    case measure => omega
    case rel => exact ⟨i + 1, by (rfl), by omega, ⟨fun j hj hl => by
     by_cases e : j = i
     ·subst e; exact hn.out
     ·exact HB.out j (by omega) hl⟩, Hb2⟩
theorem contains_40_41 (A0 : Option Addr) (c0 : Nat) (l : List S30)  (P : S30 → Bool) (w : World) (hr : Kd.C k30 w A0 l.length l) (hm : l.length ≤ 1099511627776)
  (hF : ∀ x ∈ l, ∀ (A1 : Option Addr) (c1 : Nat) (w1 : World), Below w.heap.size w w1 → x.f1.length ≤ c1 → k35.C w1 A1 x.f1.length x.f1 → Calls Tryz.prog 41 #[.agg #[.string x.f0, .slice A1 x.f1.length c1]] w1 fun e w2 => e = .returned (.bool (P x)) ∧ Below w.heap.size w1 w2) :
  Calls Tryz.prog 40 #[.slice A0 l.length c0, .func (.func 41) #[] #[]] w fun e w' => e = .returned (.bool (l.any P)) ∧ Below w.heap.size w w' := by
 have hq := idxP_any P l
 go_enter Tryz.func40, Tryz.ntmps40
 go_wp2_with (go_at_call 35; refine (indexFunc_35_41 A0 c0 l  P w hr hm hF).mono ?_; rintro e w' ⟨rfl, hb⟩)
 go_ret
 exact ⟨by rw [← hq]; rfl, hb⟩
theorem contains_59_60 (A0 : Option Addr) (c0 : Nat) (l : List S35) (b b2 : Nat) (P : S35 → Bool) (w : World) (hr : Kd.C k35 w A0 l.length l) (hm : l.length ≤ 1099511627776)
  (hF : ∀ x ∈ l, ∀ (A1 : Option Addr) (c1 : Nat) (w1 : World), Below w.heap.size w w1 → x.f1.f3.length ≤ c1 → k33.C w1 A1 x.f1.f3.length x.f1.f3 → Calls Tryz.prog 60 #[.agg #[.string x.f0, .string x.f1.f0, .string x.f1.f1, .string x.f1.f2, .slice A1 x.f1.f3.length c1], .pointer (some ⟨b, 0, none⟩), .pointer (some ⟨b2, 0, none⟩)] w1 fun e w2 => e = .returned (.bool (P x)) ∧ Below w.heap.size w1 w2) :
  Calls Tryz.prog 59 #[.slice A0 l.length c0, .func (.func 60) #[] #[.pointer (some ⟨b, 0, none⟩), .pointer (some ⟨b2, 0, none⟩)]] w fun e w' => e = .returned (.bool (l.any P)) ∧ Below w.heap.size w w' := by
 have hq := idxP_any P l
 go_enter Tryz.func59, Tryz.ntmps59
 go_wp2_with (go_at_call 57; refine (indexFunc_57_60 A0 c0 l b b2 P w hr hm hF).mono ?_; rintro e w' ⟨rfl, hb⟩)
 go_ret
 exact ⟨by rw [← hq]; rfl, hb⟩
theorem contains_61_62 (A0 : Option Addr) (c0 : Nat) (l : List S33) (b : Nat) (P : S33 → Bool) (w : World) (hr : Kd.C k33 w A0 l.length l) (hm : l.length ≤ 1099511627776)
  (hF : ∀ x ∈ l, ∀ (A1 : Option Addr) (c1 : Nat) (w1 : World), Below w.heap.size w w1 → x.f3.length ≤ c1 → k33.C w1 A1 x.f3.length x.f3 → Calls Tryz.prog 62 #[.agg #[.string x.f0, .string x.f1, .string x.f2, .slice A1 x.f3.length c1], .pointer (some ⟨b, 0, none⟩)] w1 fun e w2 => e = .returned (.bool (P x)) ∧ Below w.heap.size w1 w2) :
  Calls Tryz.prog 61 #[.slice A0 l.length c0, .func (.func 62) #[] #[.pointer (some ⟨b, 0, none⟩)]] w fun e w' => e = .returned (.bool (l.any P)) ∧ Below w.heap.size w w' := by
 have hq := idxP_any P l
 go_enter Tryz.func61, Tryz.ntmps61
 go_wp2_with (go_at_call 76; refine (indexFunc_76_62 A0 c0 l b P w hr hm hF).mono ?_; rintro e w' ⟨rfl, hb⟩)
 go_ret
 exact ⟨by rw [← hq]; rfl, hb⟩
end Go.Proofs.YtjcipbdocbomjaaGreatDoor.K
namespace Go.Proofs.YtjcipbdocbomjaaGreatDoor.K
def letterB (c : Int) : Bool := decide (97 ≤ c) && decide (c ≤ 122)
def digitB (c : Int) : Bool := decide (48 ≤ c) && decide (c ≤ 57)
def nameC (i : Nat) (c : Int) : Bool := letterB c || (decide (0 < i) && (digitB c || c == 95))
def madeB (is : Nat → Int → Bool) (most : Nat) (s : ByteArray) : Bool := ((List.range s.size).all fun j => is j (bt s j)) && decide (1 ≤ s.size) && decide (s.size ≤ most)
theorem letter_any (c : Int) (w : World) : Calls Tryz.prog 92 #[.int .i32 c] w fun e w' => e = .returned (.bool (letterB c)) ∧ w' = w := by
 unfold letterB
 by_cases h1 : 97 ≤ c
 ·have h2 : decide (c ≥ 97) = true := decide_eq_true h1
  have h3 : decide (97 ≤ c) = true := decide_eq_true h1
  rw [h3]
  clear h1
  go_enter Tryz.func92, Tryz.ntmps92
  go_wp2
  go_ret
  exact ⟨by simp, rfl⟩
 ·have h2 : decide (c ≥ 97) = false := decide_eq_false h1
  have h3 : decide (97 ≤ c) = false := decide_eq_false h1
  rw [h3]
  clear h1
  go_enter Tryz.func92, Tryz.ntmps92
  go_wp2
  go_ret
  exact ⟨by simp, rfl⟩
theorem digit_any (c : Int) (w : World) : Calls Tryz.prog 93 #[.int .i32 c] w fun e w' => e = .returned (.bool (digitB c)) ∧ w' = w := by
 unfold digitB
 by_cases h1 : 48 ≤ c
 ·have h2 : decide (c ≥ 48) = true := decide_eq_true h1
  have h3 : decide (48 ≤ c) = true := decide_eq_true h1
  rw [h3]
  clear h1
  go_enter Tryz.func93, Tryz.ntmps93
  go_wp2
  go_ret
  exact ⟨by simp, rfl⟩
 ·have h2 : decide (c ≥ 48) = false := decide_eq_false h1
  have h3 : decide (48 ≤ c) = false := decide_eq_false h1
  rw [h3]
  clear h1
  go_enter Tryz.func93, Tryz.ntmps93
  go_wp2
  go_ret
  exact ⟨by simp, rfl⟩
theorem nameC_any (i : Nat) (c : Int) (w : World) : Calls Tryz.prog 91 #[.int .i64 i, .int .i32 c] w fun e w' => e = .returned (.bool (nameC i c)) ∧ w' = w := by
 unfold nameC
 rcases Bool.eq_false_or_eq_true (letterB c) with h1 | h1
 ·rw [h1]
  go_enter Tryz.func91, Tryz.ntmps91
  go_wp2_with (first | (go_at_call 92; refine (letter_any _ _).mono ?_; rintro e w' ⟨rfl, rfl⟩) | (go_at_call 93; refine (digit_any _ _).mono ?_; rintro e w' ⟨rfl, rfl⟩))
  (try rw [h1])
  go_wp2_with (first | (go_at_call 92; refine (letter_any _ _).mono ?_; rintro e w' ⟨rfl, rfl⟩) | (go_at_call 93; refine (digit_any _ _).mono ?_; rintro e w' ⟨rfl, rfl⟩))
  go_ret
  exact ⟨by simp, rfl⟩
 ·rw [h1]
  by_cases hi : 0 < i
  ·have h2 : decide ((i : Int) > 0) = true := decide_eq_true (by omega)
   have h3 : decide (0 < i) = true := decide_eq_true hi
   rw [h3]
   clear hi
   rcases Bool.eq_false_or_eq_true (digitB c) with h4 | h4
   ·rw [h4]
    go_enter Tryz.func91, Tryz.ntmps91
    go_wp2_with (first | (go_at_call 92; refine (letter_any _ _).mono ?_; rintro e w' ⟨rfl, rfl⟩) | (go_at_call 93; refine (digit_any _ _).mono ?_; rintro e w' ⟨rfl, rfl⟩))
    go_ret
    exact ⟨by simp, rfl⟩
   ·rw [h4]
    go_enter Tryz.func91, Tryz.ntmps91
    go_wp2_with (first | (go_at_call 92; refine (letter_any _ _).mono ?_; rintro e w' ⟨rfl, rfl⟩) | (go_at_call 93; refine (digit_any _ _).mono ?_; rintro e w' ⟨rfl, rfl⟩))
    go_ret
    exact ⟨by simp, rfl⟩
  ·have h2 : decide ((i : Int) > 0) = false := decide_eq_false (by omega)
   have h3 : decide (0 < i) = false := decide_eq_false hi
   rw [h3]
   clear hi
   go_enter Tryz.func91, Tryz.ntmps91
   go_wp2_with (first | (go_at_call 92; refine (letter_any _ _).mono ?_; rintro e w' ⟨rfl, rfl⟩) | (go_at_call 93; refine (digit_any _ _).mono ?_; rintro e w' ⟨rfl, rfl⟩))
   go_ret
   exact ⟨by simp, rfl⟩
theorem tl_nil (s : ByteArray) : s.toList = ([] : List UInt8) ↔ s.size = 0 := by
 rw [ByteArray.toList_eq]; constructor
 ·intro h; have := congrArg List.length h; simpa using this
 ·intro h; exact List.eq_nil_of_length_eq_zero (by simpa using h)
theorem le_cast (a b : Nat) : decide ((a : Int) ≤ (b : Int)) = decide (a ≤ b) := by rw [decide_eq_decide]; omega
theorem high_letter (c : Int) (h : 128 ≤ c) : letterB c = false := by unfold letterB; rw [decide_eq_false (show ¬ c ≤ 122 by omega)]; simp
theorem high_digit (c : Int) (h : 128 ≤ c) : digitB c = false := by unfold digitB; rw [decide_eq_false (show ¬ c ≤ 57 by omega)]; simp
theorem high_nameC (i : Nat) (c : Int) (h : 128 ≤ c) : nameC i c = false := by
 unfold nameC; rw [high_letter c h, high_digit c h]; have : ¬ c = 95 := by omega
 simp [this]
theorem iter_below (w : World) (s : ByteArray) (p : Nat) : Below w.heap.size w (w.iter s p) := (Below.refl w.heap.size w).alloc (Nat.le_refl _) _
theorem btn_at (s : ByteArray) (p : Nat) (h : p < s.size) : bt s p = ((s[p]'h).toNat : Int) := by unfold bt; simp [h]
theorem made_stops (is : Nat → Int → Bool) (m : Nat) (s : ByteArray) (p : Nat) (h : p < s.size) (hf : is p (bt s p) = false) : madeB is m s = false := by
 unfold madeB
 have : ((List.range s.size).all fun j => is j (bt s j)) = false := by
  rw [← Bool.not_eq_true]; intro ht
  rw [List.all_eq_true] at ht
  have := ht p (List.mem_range.mpr h)
  rw [hf] at this; exact absurd this (by simp)
 rw [this]; simp
theorem made_all (is : Nat → Int → Bool) (m : Nat) (s : ByteArray) (h : ∀ j, j < s.size → is j (bt s j) = true) : madeB is m s = (decide (1 ≤ s.size) && decide (s.size ≤ m)) := by
 unfold madeB
 have : ((List.range s.size).all fun j => is j (bt s j)) = true := by
  rw [List.all_eq_true]; intro j hj
  exact h j (List.mem_range.mp hj)
 rw [this]; simp
set_option maxHeartbeats 1000000 in
set_option maxRecDepth 1000000 in
theorem made_Name (s : ByteArray) (w : World) : Calls Tryz.prog 90 #[.string s, .int .i64 12, .func (.func 91) #[] #[]] w fun e w' => e = .returned (.bool (madeB nameC 12 s)) ∧ Below w.heap.size w w' := by
 go_enter Tryz.func90, Tryz.ntmps90
 go_wp2
 go_loopw [6] (fun n w' => ∃ (pos : Nat), w' = w.iter s pos ∧ n = .bool false ∧ pos ≤ s.size ∧ (∀ j, j < pos → nameC j (bt s j) = true)) (fun _ w' => s.size - w'.iterPos w.heap.size)
 case atStart => exact ⟨0, rfl, rfl, by omega, by omega⟩
 case round =>
  obtain ⟨pos, rfl, rfl, hb, hall⟩ := hrel
  by_cases hp : pos < s.size
  ·by_cases ha : (s[pos]'hp).toNat < 128
   ·have hnx : ∀ ty, (Instr.next (.pointer (some ⟨w.heap.size, 0, none⟩)) true ty).run Tryz.prog (w.iter s pos) = _ := fun ty => run_next_ascii w s pos ty hp ha
    rcases Bool.eq_false_or_eq_true (nameC pos (s[pos]'hp).toNat) with hc | hc
    ·go_wp2_with (first | (go_at_call 91; refine (nameC_any _ _ _).mono ?_; rintro e w' ⟨rfl, rfl⟩))
     (try rw [hc])
     go_wp2_with (first | (go_at_call 91; refine (nameC_any _ _ _).mono ?_; rintro e w' ⟨rfl, rfl⟩))
     go_roundw
     case rel =>
      refine ⟨pos + 1, rfl, rfl, by omega, ?_⟩
      intro j hj
      by_cases h' : j = pos
      ·subst h'; rw [btn_at s j hp]; exact hc
      ·exact hall j (by omega)
     case measure => simp; omega
    ·go_wp2_with (first | (go_at_call 91; refine (nameC_any _ _ _).mono ?_; rintro e w' ⟨rfl, rfl⟩))
     (try rw [hc])
     go_wp2_with (first | (go_at_call 91; refine (nameC_any _ _ _).mono ?_; rintro e w' ⟨rfl, rfl⟩))
     go_ret
     rw [made_stops nameC 12 s pos hp (by rw [btn_at s pos hp]; exact hc)]
     exact ⟨rfl, iter_below w s _⟩
   ·have hnx : ∀ ty, (Instr.next (.pointer (some ⟨w.heap.size, 0, none⟩)) true ty).run Tryz.prog (w.iter s pos) = _ := fun ty => run_next_any w s pos ty hp
    have hc : nameC pos ((Utf8.decode s pos).1 : Nat) = false := high_nameC _ _ (by have := (decode_high s pos hp (by omega)).1; omega)
    go_wp2_with (first | (go_at_call 91; refine (nameC_any _ _ _).mono ?_; rintro e w' ⟨rfl, rfl⟩))
    (try rw [hc])
    go_wp2_with (first | (go_at_call 91; refine (nameC_any _ _ _).mono ?_; rintro e w' ⟨rfl, rfl⟩))
    go_ret
    rw [made_stops nameC 12 s pos hp (by rw [btn_at s pos hp]; exact high_nameC _ _ (by omega))]
    exact ⟨rfl, iter_below w s _⟩
  ·have hnx : ∀ ty, (Instr.next (.pointer (some ⟨w.heap.size, 0, none⟩)) true ty).run Tryz.prog (w.iter s pos) = _ := fun ty => run_next_end w s pos ty hp
   have hm := made_all nameC 12 s (fun j hj => hall j (by omega))
   by_cases he : s.toList = ([] : List UInt8)
   ·have h1 : (s.toList != ([] : List UInt8)) = false := bne_eq_false_iff_eq.mpr he
    have h2 : (s.toList == ([] : List UInt8)) = true := beq_iff_eq.mpr he
    have hz : decide (1 ≤ s.size) = false := decide_eq_false (by have h0 := (tl_nil s).mp he; omega)
    rw [hz] at hm
    clear he
    go_wp2
    go_ret
    rw [hm]
    exact ⟨by have := le_cast s.size 12; simp at this; simp [this], iter_below w s _⟩
   ·have h1 : (s.toList != ([] : List UInt8)) = true := bne_iff_ne.mpr he
    have h2 : (s.toList == ([] : List UInt8)) = false := beq_eq_false_iff_ne.mpr he
    have hz : decide (1 ≤ s.size) = true := decide_eq_true (by have h0 := mt (tl_nil s).mpr he; omega)
    rw [hz] at hm
    clear he
    go_wp2
    go_ret
    rw [hm]
    exact ⟨by have := le_cast s.size 12; simp at this; simp [this], iter_below w s _⟩
def tuple_Name.f (a0 : ByteArray) : Option Bool := some (madeB nameC 12 a0)
theorem tuple_Name.calls (a0 : ByteArray) (r : Bool) (w : World) (h : tuple_Name.f a0 = some r) :
  Calls Tryz.prog 77 #[.string a0] w fun e w' => e = .returned (.bool r) ∧ Below w.heap.size w w' := by
 obtain rfl := Option.some.inj h
 go_enter Tryz.func77, Tryz.ntmps77
 go_wp2_with (go_at_call 90; refine (made_Name _ _).mono ?_; rintro e w' ⟨rfl, hb⟩)
 go_ret
 exact ⟨rfl, hb⟩
end Go.Proofs.YtjcipbdocbomjaaGreatDoor.K
namespace Go.Proofs.YtjcipbdocbomjaaGreatDoor.K
theorem check1_any (x : S30) (A1 : Option Addr) (c1 : Nat) (w : World) :
  Calls Tryz.prog 41 #[.agg #[.string x.f0, .slice A1 x.f1.length c1]] w fun e w' => e = .returned (.bool (decide ((x.f1.length : Int) > 64))) ∧ Below w.heap.size w w' := by
 go_enter Tryz.func41, Tryz.ntmps41
 go_wp2
 go_ret
 exact ⟨rfl, (Below.refl _ _).alloc (Nat.le_refl _) _⟩
theorem alloc_keeps {w : World} {a : Addr} {v : Value} (h : w.cell? a = some v) (o : Obj) : (w.alloc o).cell? a = some v :=
 (((Below.refl w.heap.size w).alloc (Nat.le_refl _) o).cell (World.block_lt_of_cell? w _ h)).trans h
theorem has1_any (x : S35) (A1 : Option Addr) (c1 : Nat) (b : Nat) (rel : ByteArray) (w : World) (hb : w.heap[b]? = some (.cells #[.string rel] 9 (0, 0))) :
  Calls Tryz.prog 58 #[.agg #[.string x.f0, .string x.f1.f0, .string x.f1.f1, .string x.f1.f2, .slice A1 x.f1.f3.length c1], .pointer (some ⟨b, 0, none⟩)] w fun e w' => e = .returned (.bool (x.f0.toList == rel.toList)) ∧ Below w.heap.size w w' := by
 have hc := alloc_keeps (cell_of_one hb)
 go_enter Tryz.func58, Tryz.ntmps58
 go_wp2
 go_ret
 exact ⟨rfl, (Below.refl _ _).alloc (Nat.le_refl _) _⟩
theorem below_two (w : World) (o1 o2 : Obj) : Below w.heap.size w ((w.alloc o1).alloc o2) :=
 below_alloc (below_alloc (Below.refl _ _) _) _
theorem alloc_size (w : World) (o : Obj) : (w.alloc o).heap.size = w.heap.size + 1 := Array.size_push ..
theorem blk_second (w : World) (o1 o2 : Obj) : ((w.alloc o1).alloc o2).heap[w.heap.size + 1]? = some o2 := by
 have := blk_new (w.alloc o1) o2
 rwa [alloc_size] at this
theorem blk_first (w : World) (o1 o2 : Obj) : ((w.alloc o1).alloc o2).heap[w.heap.size]? = some o1 :=
 blk_below (blk_new w o1) (below_alloc (Below.refl _ _) _)
def hasP (rel : ByteArray) (r : S35) : Bool := r.f0.toList == rel.toList
theorem has_any (kn rel : ByteArray) (A : Option Addr) (c : Nat) (rs : List S35) (w : World) (hr : Kd.C k35 w A rs.length rs) (hm : rs.length ≤ 1099511627776) :
  Calls Tryz.prog 37 #[.agg #[.string kn, .slice A rs.length c], .string rel] w fun e w' => e = .returned (.int .i64 (idxP (hasP rel) rs)) ∧ Below w.heap.size w w' := by
 have key : ∀ (W : World) (b : Nat), Below w.heap.size w W → W.heap[b]? = some (.cells #[.string rel] 9 (0, 0)) → Calls Tryz.prog 57 #[.slice A rs.length c, .func (.func 58) #[] #[.pointer (some ⟨b, 0, none⟩)]] W fun e w' => e = .returned (.int .i64 (idxP (hasP rel) rs)) ∧ Below w.heap.size w w' := by
  intro W b hB hb
  refine (indexFunc_57_58 A c rs b (hasP rel) W (Kd.C_below hr hB) hm ?_).mono ?_
  ·intro x hx A1 c1 w1 hb1 hl hg
   refine (has1_any x A1 c1 b rel w1 (blk_below hb hb1)).mono ?_
   rintro e w2 ⟨rfl, h2⟩
   exact ⟨rfl, h2.mono hb1.size⟩
  ·rintro e w2 ⟨rfl, h2⟩
   exact ⟨rfl, hB.trans (h2.mono hB.size)⟩
 clear hr
 go_enter Tryz.func37, Tryz.ntmps37
 go_wp2_with (go_at_call 57; refine (key _ _ (below_two w _ _) (blk_second _ _ _)).mono ?_; rintro e w' ⟨rfl, hb⟩)
 go_ret
 exact ⟨rfl, hb⟩
end Go.Proofs.YtjcipbdocbomjaaGreatDoor.K
namespace Go.Proofs.YtjcipbdocbomjaaGreatDoor.K
def isP (v y : ByteArray) : Bool := v.toList == y.toList
set_option maxHeartbeats 1000000 in
set_option maxRecDepth 100000 in
theorem index_strs (A0 : Option Addr) (c0 : Nat) (l : List ByteArray) (v : ByteArray) (w : World) (hr : Kd.C Kd.string w A0 l.length l) (hm : l.length ≤ 1099511627776) :
  Calls Tryz.prog 94 #[.slice A0 l.length c0, .string v] w fun e w' => e = .returned (.int .i64 (idxP (isP v) l)) ∧ w' = w := by
 have HR := Aside0.mk hr
 clear hr
 go_enter Tryz.func94, Tryz.ntmps94
 go_wp2_with fail
 go_loopg [4, 8] l.length (fun g s4 s8 wx => ∃ (i : Nat), wx = w ∧ s8 = .int .i64 i ∧ i + g = l.length ∧ Aside0 (∀ j (hj : j < i) (hl : j < l.length), isP v (l[j]'hl) = false))
 case atStart => exact ⟨0, rfl, rfl, by omega, ⟨fun j hj => by omega⟩⟩
 case round =>
  obtain ⟨i, rfl, rfl, hig, HB⟩ := hrel
  cases gk with
  | zero =>
   have hiK : ¬ ((i : Int) < (l.length : Int)) := by omega
   have hn := Aside0.mk (idxP_none (isP v) l (fun j hj => HB.out j (by omega) hj))
   go_wp2_with fail
   go_ret
   rw [hn.out]
   exact ⟨rfl, rfl⟩
  | succ g =>
   have hlt : i < l.length := by omega
   have hiK : (i : Int) < (l.length : Int) := by omega
   have hi0 : (0 : Int) ≤ (i : Int) := by omega
   obtain ⟨ad, rfl, hx0⟩ := Kd.at_string HR.out (i : Int) hi0 hiK
   have hel : rdOf ByteArray.empty l (i : Int) = l[i] := by simp [rdOf, hlt]
   rw [hel, Int.toNat_natCast] at hx0
   clear hel
   obtain ⟨x, hx⟩ : ∃ x, l[i] = x := ⟨_, rfl⟩
   rw [hx] at hx0
   rcases Bool.eq_false_or_eq_true (isP v x) with hp | hp
   ·have hn := Aside0.mk (idxP_found (isP v) l i hlt (by rw [hx]; exact hp) (fun j hj => HB.out j hj (by omega)))
    have hp2 : (v.toList == x.toList) = true := hp
    clear hx hp
    go_wp2_with fail
    go_ret
    rw [hn.out]
    exact ⟨rfl, rfl⟩
   ·have hn := Aside0.mk (show isP v l[i] = false by rw [hx]; exact hp)
    have hp2 : (v.toList == x.toList) = false := hp
    clear hx hp
    go_wp2_with fail
    go_roundg g
    case measure => omega
    case rel => exact ⟨i + 1, rfl, by first | rfl | (simp; unfold wrap64; omega), by omega, ⟨fun j hj hl => by
     by_cases e : j = i
     ·subst e; exact hn.out
     ·exact HB.out j (by omega) hl⟩⟩
theorem contains_strs (A0 : Option Addr) (c0 : Nat) (l : List ByteArray) (v : ByteArray) (w : World) (hr : Kd.C Kd.string w A0 l.length l) (hm : l.length ≤ 1099511627776) :
  Calls Tryz.prog 78 #[.slice A0 l.length c0, .string v] w fun e w' => e = .returned (.bool (l.any (isP v))) ∧ w' = w := by
 have hq := idxP_any (isP v) l
 go_enter Tryz.func78, Tryz.ntmps78
 go_wp2_with (go_at_call 94; refine (index_strs A0 c0 l v w hr hm).mono ?_; rintro e w' ⟨rfl, rfl⟩)
 go_ret
 exact ⟨by rw [← hq]; rfl, rfl⟩
def theWords : List ByteArray := [⟨#[116, 104, 105, 115]⟩, ⟨#[111, 114]⟩, ⟨#[97, 110, 100]⟩, ⟨#[98, 117, 116]⟩, ⟨#[102, 114, 111, 109]⟩, ⟨#[107, 105, 110, 100]⟩]
def WordsIn (w : World) : Prop := Kd.C Kd.string w (some ⟨0, 0, none⟩) 6 theWords
def ruleNameP (s : ByteArray) : Bool := madeB nameC 12 s && !(theWords.any (isP s))
set_option maxHeartbeats 1000000 in
theorem name_any (s : ByteArray) (w : World) (hw : WordsIn w) : Calls Tryz.prog 63 #[.string s] w fun e w' => e = .returned (.bool (ruleNameP s)) ∧ Below w.heap.size w w' := by
 have key : ∀ w1, Below w.heap.size w w1 → Calls Tryz.prog 78 #[.slice (some ⟨0, 0, none⟩) 6 6, .string s] w1 fun e w' => e = .returned (.bool (theWords.any (isP s))) ∧ w' = w1 := fun w1 h1 => contains_strs (some ⟨0, 0, none⟩) 6 theWords s w1 (Kd.C_below hw h1) (by decide)
 unfold ruleNameP
 cases hn : madeB nameC 12 s with
 | false =>
  go_enter Tryz.func63, Tryz.ntmps63
  go_wp2_with (go_at_call 77; refine (tuple_Name.calls s _ _ rfl).mono ?_; rintro e w' ⟨rfl, hb⟩; rw [hn])
  go_ret
  exact ⟨by simp, hb⟩
 | true =>
  go_enter Tryz.func63, Tryz.ntmps63
  go_wp2_with (first | (go_at_call 77; refine (tuple_Name.calls s _ _ rfl).mono ?_; rintro e w' ⟨rfl, hb⟩; rw [hn]) | (go_at_call 78; refine (key _ hb).mono ?_; rintro e w2 ⟨rfl, rfl⟩))
  go_ret
  exact ⟨by simp, hb⟩
end Go.Proofs.YtjcipbdocbomjaaGreatDoor.K
namespace Go.Proofs.YtjcipbdocbomjaaGreatDoor.K
theorem S33.lt_of_mem {x y : S33} (h : y ∈ x.f3) : SizeOf.sizeOf y < SizeOf.sizeOf x := by
 have := List.sizeOf_lt_of_mem h
 cases x
 simp at *
 omega
def allP (H : S33 → Bool) (x : S33) : Bool := H x && x.f3.attach.all fun y => allP H y.1
 termination_by SizeOf.sizeOf x
 decreasing_by exact S33.lt_of_mem y.2
theorem allP_eq (H : S33 → Bool) (x : S33) : allP H x = (H x && x.f3.all (allP H)) := by
 rw [allP]
 congr 1
 rw [Bool.eq_iff_iff, List.all_eq_true, List.all_eq_true]
 exact ⟨fun h y hy => h ⟨y, hy⟩ (List.mem_attach _ _), fun h y _ => h y.1 y.2⟩
def smallE (x : S33) : Bool := allP (fun y => decide (y.f3.length ≤ 1099511627776)) x
theorem smallE_len {x : S33} (h : smallE x = true) : x.f3.length ≤ 1099511627776 := by
 unfold smallE at h; rw [allP_eq, Bool.and_eq_true, decide_eq_true_eq] at h; exact h.1
theorem smallE_mem {x y : S33} (h : smallE x = true) (hy : y ∈ x.f3) : smallE y = true := by
 unfold smallE at h ⊢; rw [allP_eq, Bool.and_eq_true, List.all_eq_true] at h; exact h.2 y hy
theorem any_not (H : S33 → Bool) (l : List S33) : (!(l.any fun y => !H y)) = l.all H := by
 induction l with
 | nil => rfl
 | cons y l ih => rw [List.any_cons, List.all_cons, ← ih]; cases H y <;> simp
set_option maxHeartbeats 1000000 in
set_option maxRecDepth 100000 in
theorem all1_46 (y : S33) (A2 : Option Addr) (c2 : Nat)  (b : Nat) (P : Bool) (w : World) (hb : w.heap[b]? = some (.cells #[.func (.func 46) #[] #[]] 64 (0, 0)))
  (hI : ∀ w1, Below w.heap.size w w1 → Calls Tryz.prog 45 #[.agg #[.string y.f0, .string y.f1, .string y.f2, .slice A2 y.f3.length c2], .func (.func 46) #[] #[]] w1 fun e w2 => e = .returned (.bool P) ∧ Below w.heap.size w1 w2) :
  Calls Tryz.prog 62 #[.agg #[.string y.f0, .string y.f1, .string y.f2, .slice A2 y.f3.length c2], .pointer (some ⟨b, 0, none⟩)] w fun e w' => e = .returned (.bool (!P)) ∧ Below w.heap.size w w' := by
 have hc := alloc_keeps (cell_of_one hb)
 have hW := fun o => (Below.refl w.heap.size w).alloc (Nat.le_refl _) o
 go_enter Tryz.func62, Tryz.ntmps62
 go_wp2_with (go_at_call 45; refine (hI _ (hW _)).mono ?_; rintro e w' ⟨rfl, hb2⟩)
 go_ret
 exact ⟨rfl, (hW _).trans hb2⟩
set_option maxHeartbeats 1000000 in
set_option maxRecDepth 100000 in
theorem all_46 (H : S33 → Bool)  (B : Nat) (G : World → Prop) (hG : ∀ w w1, B ≤ w.heap.size → G w → Below w.heap.size w w1 → G w1)
  (hH : ∀ (x : S33) (A1 : Option Addr) (c1 : Nat) (w : World), B ≤ w.heap.size → G w → x.f3.length ≤ c1 → k33.C w A1 x.f3.length x.f3 → Calls Tryz.prog 46 #[.agg #[.string x.f0, .string x.f1, .string x.f2, .slice A1 x.f3.length c1]] w fun e w' => e = .returned (.bool (H x)) ∧ Below w.heap.size w w') (n : Nat) :
  ∀ (x : S33) (A1 : Option Addr) (c1 : Nat) (w : World), SizeOf.sizeOf x < n → smallE x = true → B ≤ w.heap.size → G w → x.f3.length ≤ c1 → k33.C w A1 x.f3.length x.f3 →
  Calls Tryz.prog 45 #[.agg #[.string x.f0, .string x.f1, .string x.f2, .slice A1 x.f3.length c1], .func (.func 46) #[] #[]] w fun e w' => e = .returned (.bool (allP H x)) ∧ Below w.heap.size w w' := by
 induction n with
 | zero => intro x _ _ _ h; omega
 | succ n ih =>
  intro x A1 c1 w hn hs hB hg hl hC
  have key : ∀ (W : World) (b : Nat), Below w.heap.size w W → W.heap[b]? = some (.cells #[.func (.func 46) #[] #[]] 64 (0, 0)) →
    Calls Tryz.prog 61 #[.slice A1 x.f3.length c1, .func (.func 62) #[] #[.pointer (some ⟨b, 0, none⟩)]] W fun e w' => e = .returned (.bool (x.f3.any fun y => !allP H y)) ∧ Below w.heap.size w w' := by
   intro W b hW hb
   refine (contains_61_62 A1 c1 x.f3 b (fun y => !allP H y) W (Kd.C_below hC hW) (smallE_len hs) ?_).mono ?_
   ·intro y hy A2 c2 w1 hb1 hl1 hg1
    have hbw := Nat.le_trans hW.size hb1.size
    refine (all1_46 y A2 c2  b (allP H y) w1 (blk_below hb hb1) (fun w2 hb2 => ?_)).mono ?_
    ·have hbw2 := Nat.le_trans hbw hb2.size
     refine (ih y A2 c2 w2 (by have := S33.lt_of_mem hy; omega) (smallE_mem hs hy) (by omega) (hG w w2 hB hg (hW.trans ((hb1.mono hW.size).trans (hb2.mono hbw)))) hl1 (Kd.C_below hg1 hb2)).mono ?_
     rintro e w3 ⟨rfl, h3⟩
     exact ⟨rfl, h3.mono hb2.size⟩
    ·rintro e w3 ⟨rfl, h3⟩
     exact ⟨rfl, h3.mono hb1.size⟩
   ·rintro e w3 ⟨rfl, h3⟩
    exact ⟨rfl, hW.trans (h3.mono hW.size)⟩
  have hH1 : ∀ W, Below w.heap.size w W → Calls Tryz.prog 46 #[.agg #[.string x.f0, .string x.f1, .string x.f2, .slice A1 x.f3.length c1]] W fun e w' => e = .returned (.bool (H x)) ∧ (Below w.heap.size w w' ∧ Below W.heap.size W w') := by
   intro W hW
   refine (hH x A1 c1 W (Nat.le_trans hB hW.size) (hG w W hB hg hW) hl (Kd.C_below hC hW)).mono ?_
   rintro e w3 ⟨rfl, h3⟩
   exact ⟨rfl, hW.trans (h3.mono hW.size), h3⟩
  have he := allP_eq H x
  rw [← any_not] at he
  clear hC hl hg hG hH ih
  cases hx : H x with
  | false =>
   rw [hx] at he
   go_enter Tryz.func45, Tryz.ntmps45
   go_wp2_with ((go_at_call 46; refine (hH1 _ (below_two w _ _)).mono ?_; rintro e w' ⟨rfl, hb2, hb3⟩; rw [hx]))
   go_ret
   exact ⟨by rw [he]; rfl, hb2⟩
  | true =>
   rw [hx] at he
   have hk := fun (W : World) (o1 o2 : Obj) (w' : World) (hb : Below ((w.alloc o1).alloc o2).heap.size ((w.alloc o1).alloc o2) w') => (blk_below (blk_second w o1 o2) hb : w'.heap[w.heap.size + 1]? = some o2)
   go_enter Tryz.func45, Tryz.ntmps45
   go_wp2_with (first | (go_at_call 46; refine (hH1 _ (below_two w _ _)).mono ?_; rintro e w' ⟨rfl, hb2, hb3⟩; rw [hx]; have hf := blk_below (blk_first w _ _) hb3; have hc0 := blk_cell hf 3) | (go_at_call 61; refine (key _ _ hb2 (blk_below (blk_second w _ _) hb3)).mono ?_; rintro e w2 ⟨rfl, hb4⟩))
   go_ret
   exact ⟨by rw [he]; simp, hb4⟩
set_option maxHeartbeats 1000000 in
set_option maxRecDepth 100000 in
theorem all1_49 (y : S33) (A2 : Option Addr) (c2 : Nat)  (b : Nat) (P : Bool) (w : World) (hb : w.heap[b]? = some (.cells #[.func (.func 49) #[] #[]] 64 (0, 0)))
  (hI : ∀ w1, Below w.heap.size w w1 → Calls Tryz.prog 45 #[.agg #[.string y.f0, .string y.f1, .string y.f2, .slice A2 y.f3.length c2], .func (.func 49) #[] #[]] w1 fun e w2 => e = .returned (.bool P) ∧ Below w.heap.size w1 w2) :
  Calls Tryz.prog 62 #[.agg #[.string y.f0, .string y.f1, .string y.f2, .slice A2 y.f3.length c2], .pointer (some ⟨b, 0, none⟩)] w fun e w' => e = .returned (.bool (!P)) ∧ Below w.heap.size w w' := by
 have hc := alloc_keeps (cell_of_one hb)
 have hW := fun o => (Below.refl w.heap.size w).alloc (Nat.le_refl _) o
 go_enter Tryz.func62, Tryz.ntmps62
 go_wp2_with (go_at_call 45; refine (hI _ (hW _)).mono ?_; rintro e w' ⟨rfl, hb2⟩)
 go_ret
 exact ⟨rfl, (hW _).trans hb2⟩
set_option maxHeartbeats 1000000 in
set_option maxRecDepth 100000 in
theorem all_49 (H : S33 → Bool)  (B : Nat) (G : World → Prop) (hG : ∀ w w1, B ≤ w.heap.size → G w → Below w.heap.size w w1 → G w1)
  (hH : ∀ (x : S33) (A1 : Option Addr) (c1 : Nat) (w : World), B ≤ w.heap.size → G w → x.f3.length ≤ c1 → k33.C w A1 x.f3.length x.f3 → Calls Tryz.prog 49 #[.agg #[.string x.f0, .string x.f1, .string x.f2, .slice A1 x.f3.length c1]] w fun e w' => e = .returned (.bool (H x)) ∧ Below w.heap.size w w') (n : Nat) :
  ∀ (x : S33) (A1 : Option Addr) (c1 : Nat) (w : World), SizeOf.sizeOf x < n → smallE x = true → B ≤ w.heap.size → G w → x.f3.length ≤ c1 → k33.C w A1 x.f3.length x.f3 →
  Calls Tryz.prog 45 #[.agg #[.string x.f0, .string x.f1, .string x.f2, .slice A1 x.f3.length c1], .func (.func 49) #[] #[]] w fun e w' => e = .returned (.bool (allP H x)) ∧ Below w.heap.size w w' := by
 induction n with
 | zero => intro x _ _ _ h; omega
 | succ n ih =>
  intro x A1 c1 w hn hs hB hg hl hC
  have key : ∀ (W : World) (b : Nat), Below w.heap.size w W → W.heap[b]? = some (.cells #[.func (.func 49) #[] #[]] 64 (0, 0)) →
    Calls Tryz.prog 61 #[.slice A1 x.f3.length c1, .func (.func 62) #[] #[.pointer (some ⟨b, 0, none⟩)]] W fun e w' => e = .returned (.bool (x.f3.any fun y => !allP H y)) ∧ Below w.heap.size w w' := by
   intro W b hW hb
   refine (contains_61_62 A1 c1 x.f3 b (fun y => !allP H y) W (Kd.C_below hC hW) (smallE_len hs) ?_).mono ?_
   ·intro y hy A2 c2 w1 hb1 hl1 hg1
    have hbw := Nat.le_trans hW.size hb1.size
    refine (all1_49 y A2 c2  b (allP H y) w1 (blk_below hb hb1) (fun w2 hb2 => ?_)).mono ?_
    ·have hbw2 := Nat.le_trans hbw hb2.size
     refine (ih y A2 c2 w2 (by have := S33.lt_of_mem hy; omega) (smallE_mem hs hy) (by omega) (hG w w2 hB hg (hW.trans ((hb1.mono hW.size).trans (hb2.mono hbw)))) hl1 (Kd.C_below hg1 hb2)).mono ?_
     rintro e w3 ⟨rfl, h3⟩
     exact ⟨rfl, h3.mono hb2.size⟩
    ·rintro e w3 ⟨rfl, h3⟩
     exact ⟨rfl, h3.mono hb1.size⟩
   ·rintro e w3 ⟨rfl, h3⟩
    exact ⟨rfl, hW.trans (h3.mono hW.size)⟩
  have hH1 : ∀ W, Below w.heap.size w W → Calls Tryz.prog 49 #[.agg #[.string x.f0, .string x.f1, .string x.f2, .slice A1 x.f3.length c1]] W fun e w' => e = .returned (.bool (H x)) ∧ (Below w.heap.size w w' ∧ Below W.heap.size W w') := by
   intro W hW
   refine (hH x A1 c1 W (Nat.le_trans hB hW.size) (hG w W hB hg hW) hl (Kd.C_below hC hW)).mono ?_
   rintro e w3 ⟨rfl, h3⟩
   exact ⟨rfl, hW.trans (h3.mono hW.size), h3⟩
  have he := allP_eq H x
  rw [← any_not] at he
  clear hC hl hg hG hH ih
  cases hx : H x with
  | false =>
   rw [hx] at he
   go_enter Tryz.func45, Tryz.ntmps45
   go_wp2_with ((go_at_call 49; refine (hH1 _ (below_two w _ _)).mono ?_; rintro e w' ⟨rfl, hb2, hb3⟩; rw [hx]))
   go_ret
   exact ⟨by rw [he]; rfl, hb2⟩
  | true =>
   rw [hx] at he
   have hk := fun (W : World) (o1 o2 : Obj) (w' : World) (hb : Below ((w.alloc o1).alloc o2).heap.size ((w.alloc o1).alloc o2) w') => (blk_below (blk_second w o1 o2) hb : w'.heap[w.heap.size + 1]? = some o2)
   go_enter Tryz.func45, Tryz.ntmps45
   go_wp2_with (first | (go_at_call 49; refine (hH1 _ (below_two w _ _)).mono ?_; rintro e w' ⟨rfl, hb2, hb3⟩; rw [hx]; have hf := blk_below (blk_first w _ _) hb3; have hc0 := blk_cell hf 3) | (go_at_call 61; refine (key _ _ hb2 (blk_below (blk_second w _ _) hb3)).mono ?_; rintro e w2 ⟨rfl, hb4⟩))
   go_ret
   exact ⟨by rw [he]; simp, hb4⟩
set_option maxHeartbeats 1000000 in
set_option maxRecDepth 100000 in
theorem all1_66 (y : S33) (A2 : Option Addr) (c2 : Nat) (bk : Nat) (b : Nat) (P : Bool) (w : World) (hb : w.heap[b]? = some (.cells #[.func (.func 66) #[] #[.pointer (some ⟨bk, 0, none⟩)]] 64 (0, 0)))
  (hI : ∀ w1, Below w.heap.size w w1 → Calls Tryz.prog 45 #[.agg #[.string y.f0, .string y.f1, .string y.f2, .slice A2 y.f3.length c2], .func (.func 66) #[] #[.pointer (some ⟨bk, 0, none⟩)]] w1 fun e w2 => e = .returned (.bool P) ∧ Below w.heap.size w1 w2) :
  Calls Tryz.prog 62 #[.agg #[.string y.f0, .string y.f1, .string y.f2, .slice A2 y.f3.length c2], .pointer (some ⟨b, 0, none⟩)] w fun e w' => e = .returned (.bool (!P)) ∧ Below w.heap.size w w' := by
 have hc := alloc_keeps (cell_of_one hb)
 have hW := fun o => (Below.refl w.heap.size w).alloc (Nat.le_refl _) o
 go_enter Tryz.func62, Tryz.ntmps62
 go_wp2_with (go_at_call 45; refine (hI _ (hW _)).mono ?_; rintro e w' ⟨rfl, hb2⟩)
 go_ret
 exact ⟨rfl, (hW _).trans hb2⟩
set_option maxHeartbeats 1000000 in
set_option maxRecDepth 100000 in
theorem all_66 (H : S33 → Bool) (bk : Nat) (B : Nat) (G : World → Prop) (hG : ∀ w w1, B ≤ w.heap.size → G w → Below w.heap.size w w1 → G w1)
  (hH : ∀ (x : S33) (A1 : Option Addr) (c1 : Nat) (w : World), B ≤ w.heap.size → G w → x.f3.length ≤ c1 → k33.C w A1 x.f3.length x.f3 → Calls Tryz.prog 66 #[.agg #[.string x.f0, .string x.f1, .string x.f2, .slice A1 x.f3.length c1], .pointer (some ⟨bk, 0, none⟩)] w fun e w' => e = .returned (.bool (H x)) ∧ Below w.heap.size w w') (n : Nat) :
  ∀ (x : S33) (A1 : Option Addr) (c1 : Nat) (w : World), SizeOf.sizeOf x < n → smallE x = true → B ≤ w.heap.size → G w → x.f3.length ≤ c1 → k33.C w A1 x.f3.length x.f3 →
  Calls Tryz.prog 45 #[.agg #[.string x.f0, .string x.f1, .string x.f2, .slice A1 x.f3.length c1], .func (.func 66) #[] #[.pointer (some ⟨bk, 0, none⟩)]] w fun e w' => e = .returned (.bool (allP H x)) ∧ Below w.heap.size w w' := by
 induction n with
 | zero => intro x _ _ _ h; omega
 | succ n ih =>
  intro x A1 c1 w hn hs hB hg hl hC
  have key : ∀ (W : World) (b : Nat), Below w.heap.size w W → W.heap[b]? = some (.cells #[.func (.func 66) #[] #[.pointer (some ⟨bk, 0, none⟩)]] 64 (0, 0)) →
    Calls Tryz.prog 61 #[.slice A1 x.f3.length c1, .func (.func 62) #[] #[.pointer (some ⟨b, 0, none⟩)]] W fun e w' => e = .returned (.bool (x.f3.any fun y => !allP H y)) ∧ Below w.heap.size w w' := by
   intro W b hW hb
   refine (contains_61_62 A1 c1 x.f3 b (fun y => !allP H y) W (Kd.C_below hC hW) (smallE_len hs) ?_).mono ?_
   ·intro y hy A2 c2 w1 hb1 hl1 hg1
    have hbw := Nat.le_trans hW.size hb1.size
    refine (all1_66 y A2 c2 bk b (allP H y) w1 (blk_below hb hb1) (fun w2 hb2 => ?_)).mono ?_
    ·have hbw2 := Nat.le_trans hbw hb2.size
     refine (ih y A2 c2 w2 (by have := S33.lt_of_mem hy; omega) (smallE_mem hs hy) (by omega) (hG w w2 hB hg (hW.trans ((hb1.mono hW.size).trans (hb2.mono hbw)))) hl1 (Kd.C_below hg1 hb2)).mono ?_
     rintro e w3 ⟨rfl, h3⟩
     exact ⟨rfl, h3.mono hb2.size⟩
    ·rintro e w3 ⟨rfl, h3⟩
     exact ⟨rfl, h3.mono hb1.size⟩
   ·rintro e w3 ⟨rfl, h3⟩
    exact ⟨rfl, hW.trans (h3.mono hW.size)⟩
  have hH1 : ∀ W, Below w.heap.size w W → Calls Tryz.prog 66 #[.agg #[.string x.f0, .string x.f1, .string x.f2, .slice A1 x.f3.length c1], .pointer (some ⟨bk, 0, none⟩)] W fun e w' => e = .returned (.bool (H x)) ∧ (Below w.heap.size w w' ∧ Below W.heap.size W w') := by
   intro W hW
   refine (hH x A1 c1 W (Nat.le_trans hB hW.size) (hG w W hB hg hW) hl (Kd.C_below hC hW)).mono ?_
   rintro e w3 ⟨rfl, h3⟩
   exact ⟨rfl, hW.trans (h3.mono hW.size), h3⟩
  have he := allP_eq H x
  rw [← any_not] at he
  clear hC hl hg hG hH ih
  cases hx : H x with
  | false =>
   rw [hx] at he
   go_enter Tryz.func45, Tryz.ntmps45
   go_wp2_with ((go_at_call 66; refine (hH1 _ (below_two w _ _)).mono ?_; rintro e w' ⟨rfl, hb2, hb3⟩; rw [hx]))
   go_ret
   exact ⟨by rw [he]; rfl, hb2⟩
  | true =>
   rw [hx] at he
   have hk := fun (W : World) (o1 o2 : Obj) (w' : World) (hb : Below ((w.alloc o1).alloc o2).heap.size ((w.alloc o1).alloc o2) w') => (blk_below (blk_second w o1 o2) hb : w'.heap[w.heap.size + 1]? = some o2)
   go_enter Tryz.func45, Tryz.ntmps45
   go_wp2_with (first | (go_at_call 66; refine (hH1 _ (below_two w _ _)).mono ?_; rintro e w' ⟨rfl, hb2, hb3⟩; rw [hx]; have hf := blk_below (blk_first w _ _) hb3; have hc0 := blk_cell hf 3) | (go_at_call 61; refine (key _ _ hb2 (blk_below (blk_second w _ _) hb3)).mono ?_; rintro e w2 ⟨rfl, hb4⟩))
   go_ret
   exact ⟨by rw [he]; simp, hb4⟩
end Go.Proofs.YtjcipbdocbomjaaGreatDoor.K
namespace Go.Proofs.YtjcipbdocbomjaaGreatDoor.K
def eachP (P : S30 → S35 → Bool) (l : List S30) : Bool := l.all fun k => k.f1.all (P k)
theorem anyr_not {α : Type} (H : α → Bool) (l : List α) : (l.any fun y => !H y) = !(l.all H) := by
 induction l with
 | nil => rfl
 | cons y l ih => rw [List.any_cons, List.all_cons, ih]; cases H y <;> simp
theorem eachP_stop (P : S30 → S35 → Bool) (l : List S30) (i : Nat) (hi : i < l.length) (h : (l[i].f1.all (P l[i])) = false) : eachP P l = false := by
 unfold eachP
 rw [← Bool.not_eq_true, List.all_eq_true]
 intro e
 rw [e _ (List.getElem_mem hi)] at h
 cases h
theorem eachP_all (P : S30 → S35 → Bool) (l : List S30) (h : ∀ j (hj : j < l.length), (l[j].f1.all (P l[j])) = true) : eachP P l = true := by
 unfold eachP
 rw [List.all_eq_true]
 intro x hx
 obtain ⟨j, hj, rfl⟩ := List.getElem_of_mem hx
 exact h j hj
theorem two_cells {w : World} {b : Nat} {u v : Value} {t : TypeId} (h : w.heap[b]? = some (.cells #[u, v] t (0, 0))) : w.cell? ⟨b, 0, none⟩ = some u ∧ w.cell? ⟨b, 1, none⟩ = some v :=
 ⟨(blk_cell h 0).trans rfl, (blk_cell h 1).trans rfl⟩
set_option maxHeartbeats 1000000 in
set_option maxRecDepth 100000 in
theorem each1_43 (k : S30) (A1 : Option Addr) (c1 : Nat) (r : S35) (A2 : Option Addr) (c2 : Nat) (b b2 : Nat) (Q : Bool) (w : World) (hb : w.heap[b]? = some (.cells #[.func (.func 43) #[] #[]] 72 (0, 0)))
  (hb2 : w.heap[b2]? = some (.cells #[.string k.f0, .slice A1 k.f1.length c1] 30 (0, 0)))
  (hI : ∀ w1, Below w.heap.size w w1 → Calls Tryz.prog 43 #[.agg #[.string k.f0, .slice A1 k.f1.length c1], .agg #[.string r.f0, .string r.f1.f0, .string r.f1.f1, .string r.f1.f2, .slice A2 r.f1.f3.length c2]] w1 fun e w2 => e = .returned (.bool Q) ∧ Below w.heap.size w1 w2) :
  Calls Tryz.prog 60 #[.agg #[.string r.f0, .string r.f1.f0, .string r.f1.f1, .string r.f1.f2, .slice A2 r.f1.f3.length c2], .pointer (some ⟨b, 0, none⟩), .pointer (some ⟨b2, 0, none⟩)] w fun e w' => e = .returned (.bool (!Q)) ∧ Below w.heap.size w w' := by
 have hc := alloc_keeps (cell_of_one hb)
 have hc0 := alloc_keeps (two_cells hb2).1
 have hc1 := alloc_keeps (two_cells hb2).2
 have hW := fun o => (Below.refl w.heap.size w).alloc (Nat.le_refl _) o
 go_enter Tryz.func60, Tryz.ntmps60
 go_wp2_with (go_at_call 43; refine (hI _ (hW _)).mono ?_; rintro e w' ⟨rfl, hb2⟩)
 go_ret
 exact ⟨rfl, (hW _).trans hb2⟩
set_option maxHeartbeats 2000000 in
set_option maxRecDepth 100000 in
theorem each_43 (A0 : Option Addr) (c0 : Nat) (l : List S30) (P : S30 → S35 → Bool) (w : World) (hr : Kd.C k30 w A0 l.length l) (hm : l.length ≤ 1099511627776) (hms : ∀ k ∈ l, k.f1.length ≤ 1099511627776)
  (hH : ∀ k ∈ l, ∀ r ∈ k.f1, ∀ (A1 : Option Addr) (c1 : Nat) (A2 : Option Addr) (c2 : Nat) (w1 : World), Below w.heap.size w w1 → k.f1.length ≤ c1 → k35.C w1 A1 k.f1.length k.f1 → r.f1.f3.length ≤ c2 → k33.C w1 A2 r.f1.f3.length r.f1.f3 →
   Calls Tryz.prog 43 #[.agg #[.string k.f0, .slice A1 k.f1.length c1], .agg #[.string r.f0, .string r.f1.f0, .string r.f1.f1, .string r.f1.f2, .slice A2 r.f1.f3.length c2]] w1 fun e w2 => e = .returned (.bool (P k r)) ∧ Below w1.heap.size w1 w2) :
  Calls Tryz.prog 42 #[.slice A0 l.length c0, .func (.func 43) #[] #[]] w fun e w' => e = .returned (.bool (eachP P l)) ∧ Below w.heap.size w w' := by
 have key : ∀ k ∈ l, ∀ (A1 : Option Addr) (c1 : Nat) (W : World) (b2 : Nat), Below w.heap.size w W → k.f1.length ≤ c1 → k35.C W A1 k.f1.length k.f1 → W.heap[w.heap.size]? = some (.cells #[.func (.func 43) #[] #[]] 72 (0, 0)) → W.heap[b2]? = some (.cells #[.string k.f0, .slice A1 k.f1.length c1] 30 (0, 0)) →
   Calls Tryz.prog 59 #[.slice A1 k.f1.length c1, .func (.func 60) #[] #[.pointer (some ⟨w.heap.size, 0, none⟩), .pointer (some ⟨b2, 0, none⟩)]] W fun e w' => e = .returned (.bool (k.f1.any fun r => !P k r)) ∧ (Below w.heap.size w w' ∧ w'.heap[w.heap.size]? = some (.cells #[.func (.func 43) #[] #[]] 72 (0, 0))) := by
  intro k hk A1 c1 W b2 hW hl hC hf hb2
  refine (contains_59_60 A1 c1 k.f1 w.heap.size b2 (fun r => !P k r) W hC (hms k hk) ?_).mono ?_
  ·intro r hr2 A2 c2 w1 hb1 hl2 hC2
   refine (each1_43 k A1 c1 r A2 c2 w.heap.size b2 (P k r) w1 (blk_below hf hb1) (blk_below hb2 hb1) (fun w2 hw2 => ?_)).mono ?_
   ·have hbw := Nat.le_trans hW.size hb1.size
    refine (hH k hk r hr2 A1 c1 A2 c2 w2 (hW.trans ((hb1.mono hW.size).trans (hw2.mono hbw))) hl (Kd.C_below (Kd.C_below hC hb1) hw2) hl2 (Kd.C_below hC2 hw2)).mono ?_
    rintro e w3 ⟨rfl, h3⟩
    exact ⟨rfl, h3.mono hw2.size⟩
   ·rintro e w3 ⟨rfl, h3⟩
    exact ⟨rfl, h3.mono hb1.size⟩
  ·rintro e w3 ⟨rfl, h3⟩
   exact ⟨rfl, hW.trans (h3.mono hW.size), blk_below hf h3⟩
 have HR := Aside0.mk hr
 have KEY := Aside0.mk key
 clear hr hH key
 go_enter Tryz.func42, Tryz.ntmps42
 go_wp2_with fail
 go_loopg [4, 9] l.length (fun g s4 s9 wx => ∃ (i : Nat), s9 = .int .i64 i ∧ i + g = l.length ∧ Aside0 (∀ j (hj : j < i) (hl : j < l.length), ((l[j]'hl).f1.all (P (l[j]'hl))) = true) ∧ Aside0 (Below w.heap.size w wx) ∧ Aside0 (wx.heap[w.heap.size]? = some (.cells #[.func (.func 43) #[] #[]] 72 (0, 0))))
 case atStart => exact ⟨0, rfl, by omega, ⟨fun j hj => by omega⟩, ⟨below_alloc (Below.refl _ _) _⟩, ⟨blk_new _ _⟩⟩
 case round =>
  obtain ⟨i, rfl, hig, HB, HW, HF⟩ := hrel
  cases gk with
  | zero =>
   have hiK : ¬ ((i : Int) < (l.length : Int)) := by omega
   have hn := Aside0.mk (eachP_all P l (fun j hj => HB.out j (by omega) hj))
   go_wp2_with fail
   go_ret
   rw [hn.out]
   exact ⟨rfl, HW.out⟩
  | succ g =>
   have hlt : i < l.length := by omega
   have hiK : (i : Int) < (l.length : Int) := by omega
   have hi0 : (0 : Int) ≤ (i : Int) := by omega
   obtain ⟨ad, A1, c1, rfl, hx0, hx1, hl1, hg1⟩ := at_T30 (Kd.C_below HR.out HW.out) (i : Int) hi0 hiK
   have hel : rd_T30 l (i : Int) = l[i] := rd_some z30 l i hlt
   rw [hel] at hx0 hx1 hl1 hg1
   rw [Int.toNat_natCast] at hx0 hx1
   have HL := Aside0.mk hl1
   have HG := Aside0.mk hg1
   clear hl1 hg1 hel
   have hmem := Aside0.mk (List.getElem_mem hlt)
   obtain ⟨k, hk⟩ : ∃ k, l[i] = k := ⟨_, rfl⟩
   rw [hk] at hx0 hx1 HL HG hmem
   cases hp : k.f1.all (P k) with
   | false =>
    have hn := Aside0.mk (eachP_stop P l i hlt (by rw [hk]; exact hp))
    have hany : (k.f1.any fun r => !P k r) = true := by rw [anyr_not, hp]; rfl
    clear hk
    go_wp2_with (go_at_call 59; refine (KEY.out k hmem.out A1 c1 _ _ (below_alloc HW.out _) HL.out (Kd.C_below HG.out (below_alloc (Below.refl _ _) _)) (blk_below HF.out (below_alloc (Below.refl _ _) _)) (blk_new _ _)).mono ?_; rintro e w2 ⟨rfl, hb2, hf2⟩; rw [hany])
    go_ret
    rw [hn.out]
    exact ⟨rfl, hb2⟩
   | true =>
    have hn := Aside0.mk (show (l[i].f1.all (P l[i])) = true by rw [hk]; exact hp)
    have hany : (k.f1.any fun r => !P k r) = false := by rw [anyr_not, hp]; rfl
    clear hk
    go_wp2_with (go_at_call 59; refine (KEY.out k hmem.out A1 c1 _ _ (below_alloc HW.out _) HL.out (Kd.C_below HG.out (below_alloc (Below.refl _ _) _)) (blk_below HF.out (below_alloc (Below.refl _ _) _)) (blk_new _ _)).mono ?_; rintro e w2 ⟨rfl, hb2, hf2⟩; rw [hany]; have Hb2 := Aside0.mk hb2; have Hf2 := Aside0.mk hf2; clear hb2 hf2)
    go_roundg g
    case measure => omega
    case rel => exact ⟨i + 1, by (rfl), by omega, ⟨fun j hj hl => by
     by_cases e : j = i
     ·subst e; exact hn.out
     ·exact HB.out j (by omega) hl⟩, Hb2, Hf2⟩
set_option maxHeartbeats 1000000 in
set_option maxRecDepth 100000 in
theorem each1_44 (k : S30) (A1 : Option Addr) (c1 : Nat) (r : S35) (A2 : Option Addr) (c2 : Nat) (b b2 : Nat) (Q : Bool) (w : World) (hb : w.heap[b]? = some (.cells #[.func (.func 44) #[] #[]] 72 (0, 0)))
  (hb2 : w.heap[b2]? = some (.cells #[.string k.f0, .slice A1 k.f1.length c1] 30 (0, 0)))
  (hI : ∀ w1, Below w.heap.size w w1 → Calls Tryz.prog 44 #[.agg #[.string k.f0, .slice A1 k.f1.length c1], .agg #[.string r.f0, .string r.f1.f0, .string r.f1.f1, .string r.f1.f2, .slice A2 r.f1.f3.length c2]] w1 fun e w2 => e = .returned (.bool Q) ∧ Below w.heap.size w1 w2) :
  Calls Tryz.prog 60 #[.agg #[.string r.f0, .string r.f1.f0, .string r.f1.f1, .string r.f1.f2, .slice A2 r.f1.f3.length c2], .pointer (some ⟨b, 0, none⟩), .pointer (some ⟨b2, 0, none⟩)] w fun e w' => e = .returned (.bool (!Q)) ∧ Below w.heap.size w w' := by
 have hc := alloc_keeps (cell_of_one hb)
 have hc0 := alloc_keeps (two_cells hb2).1
 have hc1 := alloc_keeps (two_cells hb2).2
 have hW := fun o => (Below.refl w.heap.size w).alloc (Nat.le_refl _) o
 go_enter Tryz.func60, Tryz.ntmps60
 go_wp2_with (go_at_call 44; refine (hI _ (hW _)).mono ?_; rintro e w' ⟨rfl, hb2⟩)
 go_ret
 exact ⟨rfl, (hW _).trans hb2⟩
set_option maxHeartbeats 2000000 in
set_option maxRecDepth 100000 in
theorem each_44 (A0 : Option Addr) (c0 : Nat) (l : List S30) (P : S30 → S35 → Bool) (w : World) (hr : Kd.C k30 w A0 l.length l) (hm : l.length ≤ 1099511627776) (hms : ∀ k ∈ l, k.f1.length ≤ 1099511627776)
  (hH : ∀ k ∈ l, ∀ r ∈ k.f1, ∀ (A1 : Option Addr) (c1 : Nat) (A2 : Option Addr) (c2 : Nat) (w1 : World), Below w.heap.size w w1 → k.f1.length ≤ c1 → k35.C w1 A1 k.f1.length k.f1 → r.f1.f3.length ≤ c2 → k33.C w1 A2 r.f1.f3.length r.f1.f3 →
   Calls Tryz.prog 44 #[.agg #[.string k.f0, .slice A1 k.f1.length c1], .agg #[.string r.f0, .string r.f1.f0, .string r.f1.f1, .string r.f1.f2, .slice A2 r.f1.f3.length c2]] w1 fun e w2 => e = .returned (.bool (P k r)) ∧ Below w1.heap.size w1 w2) :
  Calls Tryz.prog 42 #[.slice A0 l.length c0, .func (.func 44) #[] #[]] w fun e w' => e = .returned (.bool (eachP P l)) ∧ Below w.heap.size w w' := by
 have key : ∀ k ∈ l, ∀ (A1 : Option Addr) (c1 : Nat) (W : World) (b2 : Nat), Below w.heap.size w W → k.f1.length ≤ c1 → k35.C W A1 k.f1.length k.f1 → W.heap[w.heap.size]? = some (.cells #[.func (.func 44) #[] #[]] 72 (0, 0)) → W.heap[b2]? = some (.cells #[.string k.f0, .slice A1 k.f1.length c1] 30 (0, 0)) →
   Calls Tryz.prog 59 #[.slice A1 k.f1.length c1, .func (.func 60) #[] #[.pointer (some ⟨w.heap.size, 0, none⟩), .pointer (some ⟨b2, 0, none⟩)]] W fun e w' => e = .returned (.bool (k.f1.any fun r => !P k r)) ∧ (Below w.heap.size w w' ∧ w'.heap[w.heap.size]? = some (.cells #[.func (.func 44) #[] #[]] 72 (0, 0))) := by
  intro k hk A1 c1 W b2 hW hl hC hf hb2
  refine (contains_59_60 A1 c1 k.f1 w.heap.size b2 (fun r => !P k r) W hC (hms k hk) ?_).mono ?_
  ·intro r hr2 A2 c2 w1 hb1 hl2 hC2
   refine (each1_44 k A1 c1 r A2 c2 w.heap.size b2 (P k r) w1 (blk_below hf hb1) (blk_below hb2 hb1) (fun w2 hw2 => ?_)).mono ?_
   ·have hbw := Nat.le_trans hW.size hb1.size
    refine (hH k hk r hr2 A1 c1 A2 c2 w2 (hW.trans ((hb1.mono hW.size).trans (hw2.mono hbw))) hl (Kd.C_below (Kd.C_below hC hb1) hw2) hl2 (Kd.C_below hC2 hw2)).mono ?_
    rintro e w3 ⟨rfl, h3⟩
    exact ⟨rfl, h3.mono hw2.size⟩
   ·rintro e w3 ⟨rfl, h3⟩
    exact ⟨rfl, h3.mono hb1.size⟩
  ·rintro e w3 ⟨rfl, h3⟩
   exact ⟨rfl, hW.trans (h3.mono hW.size), blk_below hf h3⟩
 have HR := Aside0.mk hr
 have KEY := Aside0.mk key
 clear hr hH key
 go_enter Tryz.func42, Tryz.ntmps42
 go_wp2_with fail
 go_loopg [4, 9] l.length (fun g s4 s9 wx => ∃ (i : Nat), s9 = .int .i64 i ∧ i + g = l.length ∧ Aside0 (∀ j (hj : j < i) (hl : j < l.length), ((l[j]'hl).f1.all (P (l[j]'hl))) = true) ∧ Aside0 (Below w.heap.size w wx) ∧ Aside0 (wx.heap[w.heap.size]? = some (.cells #[.func (.func 44) #[] #[]] 72 (0, 0))))
 case atStart => exact ⟨0, rfl, by omega, ⟨fun j hj => by omega⟩, ⟨below_alloc (Below.refl _ _) _⟩, ⟨blk_new _ _⟩⟩
 case round =>
  obtain ⟨i, rfl, hig, HB, HW, HF⟩ := hrel
  cases gk with
  | zero =>
   have hiK : ¬ ((i : Int) < (l.length : Int)) := by omega
   have hn := Aside0.mk (eachP_all P l (fun j hj => HB.out j (by omega) hj))
   go_wp2_with fail
   go_ret
   rw [hn.out]
   exact ⟨rfl, HW.out⟩
  | succ g =>
   have hlt : i < l.length := by omega
   have hiK : (i : Int) < (l.length : Int) := by omega
   have hi0 : (0 : Int) ≤ (i : Int) := by omega
   obtain ⟨ad, A1, c1, rfl, hx0, hx1, hl1, hg1⟩ := at_T30 (Kd.C_below HR.out HW.out) (i : Int) hi0 hiK
   have hel : rd_T30 l (i : Int) = l[i] := rd_some z30 l i hlt
   rw [hel] at hx0 hx1 hl1 hg1
   rw [Int.toNat_natCast] at hx0 hx1
   have HL := Aside0.mk hl1
   have HG := Aside0.mk hg1
   clear hl1 hg1 hel
   have hmem := Aside0.mk (List.getElem_mem hlt)
   obtain ⟨k, hk⟩ : ∃ k, l[i] = k := ⟨_, rfl⟩
   rw [hk] at hx0 hx1 HL HG hmem
   cases hp : k.f1.all (P k) with
   | false =>
    have hn := Aside0.mk (eachP_stop P l i hlt (by rw [hk]; exact hp))
    have hany : (k.f1.any fun r => !P k r) = true := by rw [anyr_not, hp]; rfl
    clear hk
    go_wp2_with (go_at_call 59; refine (KEY.out k hmem.out A1 c1 _ _ (below_alloc HW.out _) HL.out (Kd.C_below HG.out (below_alloc (Below.refl _ _) _)) (blk_below HF.out (below_alloc (Below.refl _ _) _)) (blk_new _ _)).mono ?_; rintro e w2 ⟨rfl, hb2, hf2⟩; rw [hany])
    go_ret
    rw [hn.out]
    exact ⟨rfl, hb2⟩
   | true =>
    have hn := Aside0.mk (show (l[i].f1.all (P l[i])) = true by rw [hk]; exact hp)
    have hany : (k.f1.any fun r => !P k r) = false := by rw [anyr_not, hp]; rfl
    clear hk
    go_wp2_with (go_at_call 59; refine (KEY.out k hmem.out A1 c1 _ _ (below_alloc HW.out _) HL.out (Kd.C_below HG.out (below_alloc (Below.refl _ _) _)) (blk_below HF.out (below_alloc (Below.refl _ _) _)) (blk_new _ _)).mono ?_; rintro e w2 ⟨rfl, hb2, hf2⟩; rw [hany]; have Hb2 := Aside0.mk hb2; have Hf2 := Aside0.mk hf2; clear hb2 hf2)
    go_roundg g
    case measure => omega
    case rel => exact ⟨i + 1, by (rfl), by omega, ⟨fun j hj hl => by
     by_cases e : j = i
     ·subst e; exact hn.out
     ·exact HB.out j (by omega) hl⟩, Hb2, Hf2⟩
set_option maxHeartbeats 1000000 in
set_option maxRecDepth 100000 in
theorem each1_48 (k : S30) (A1 : Option Addr) (c1 : Nat) (r : S35) (A2 : Option Addr) (c2 : Nat) (b b2 : Nat) (Q : Bool) (w : World) (hb : w.heap[b]? = some (.cells #[.func (.func 48) #[] #[]] 72 (0, 0)))
  (hb2 : w.heap[b2]? = some (.cells #[.string k.f0, .slice A1 k.f1.length c1] 30 (0, 0)))
  (hI : ∀ w1, Below w.heap.size w w1 → Calls Tryz.prog 48 #[.agg #[.string k.f0, .slice A1 k.f1.length c1], .agg #[.string r.f0, .string r.f1.f0, .string r.f1.f1, .string r.f1.f2, .slice A2 r.f1.f3.length c2]] w1 fun e w2 => e = .returned (.bool Q) ∧ Below w.heap.size w1 w2) :
  Calls Tryz.prog 60 #[.agg #[.string r.f0, .string r.f1.f0, .string r.f1.f1, .string r.f1.f2, .slice A2 r.f1.f3.length c2], .pointer (some ⟨b, 0, none⟩), .pointer (some ⟨b2, 0, none⟩)] w fun e w' => e = .returned (.bool (!Q)) ∧ Below w.heap.size w w' := by
 have hc := alloc_keeps (cell_of_one hb)
 have hc0 := alloc_keeps (two_cells hb2).1
 have hc1 := alloc_keeps (two_cells hb2).2
 have hW := fun o => (Below.refl w.heap.size w).alloc (Nat.le_refl _) o
 go_enter Tryz.func60, Tryz.ntmps60
 go_wp2_with (go_at_call 48; refine (hI _ (hW _)).mono ?_; rintro e w' ⟨rfl, hb2⟩)
 go_ret
 exact ⟨rfl, (hW _).trans hb2⟩
set_option maxHeartbeats 2000000 in
set_option maxRecDepth 100000 in
theorem each_48 (A0 : Option Addr) (c0 : Nat) (l : List S30) (P : S30 → S35 → Bool) (w : World) (hr : Kd.C k30 w A0 l.length l) (hm : l.length ≤ 1099511627776) (hms : ∀ k ∈ l, k.f1.length ≤ 1099511627776)
  (hH : ∀ k ∈ l, ∀ r ∈ k.f1, ∀ (A1 : Option Addr) (c1 : Nat) (A2 : Option Addr) (c2 : Nat) (w1 : World), Below w.heap.size w w1 → k.f1.length ≤ c1 → k35.C w1 A1 k.f1.length k.f1 → r.f1.f3.length ≤ c2 → k33.C w1 A2 r.f1.f3.length r.f1.f3 →
   Calls Tryz.prog 48 #[.agg #[.string k.f0, .slice A1 k.f1.length c1], .agg #[.string r.f0, .string r.f1.f0, .string r.f1.f1, .string r.f1.f2, .slice A2 r.f1.f3.length c2]] w1 fun e w2 => e = .returned (.bool (P k r)) ∧ Below w1.heap.size w1 w2) :
  Calls Tryz.prog 42 #[.slice A0 l.length c0, .func (.func 48) #[] #[]] w fun e w' => e = .returned (.bool (eachP P l)) ∧ Below w.heap.size w w' := by
 have key : ∀ k ∈ l, ∀ (A1 : Option Addr) (c1 : Nat) (W : World) (b2 : Nat), Below w.heap.size w W → k.f1.length ≤ c1 → k35.C W A1 k.f1.length k.f1 → W.heap[w.heap.size]? = some (.cells #[.func (.func 48) #[] #[]] 72 (0, 0)) → W.heap[b2]? = some (.cells #[.string k.f0, .slice A1 k.f1.length c1] 30 (0, 0)) →
   Calls Tryz.prog 59 #[.slice A1 k.f1.length c1, .func (.func 60) #[] #[.pointer (some ⟨w.heap.size, 0, none⟩), .pointer (some ⟨b2, 0, none⟩)]] W fun e w' => e = .returned (.bool (k.f1.any fun r => !P k r)) ∧ (Below w.heap.size w w' ∧ w'.heap[w.heap.size]? = some (.cells #[.func (.func 48) #[] #[]] 72 (0, 0))) := by
  intro k hk A1 c1 W b2 hW hl hC hf hb2
  refine (contains_59_60 A1 c1 k.f1 w.heap.size b2 (fun r => !P k r) W hC (hms k hk) ?_).mono ?_
  ·intro r hr2 A2 c2 w1 hb1 hl2 hC2
   refine (each1_48 k A1 c1 r A2 c2 w.heap.size b2 (P k r) w1 (blk_below hf hb1) (blk_below hb2 hb1) (fun w2 hw2 => ?_)).mono ?_
   ·have hbw := Nat.le_trans hW.size hb1.size
    refine (hH k hk r hr2 A1 c1 A2 c2 w2 (hW.trans ((hb1.mono hW.size).trans (hw2.mono hbw))) hl (Kd.C_below (Kd.C_below hC hb1) hw2) hl2 (Kd.C_below hC2 hw2)).mono ?_
    rintro e w3 ⟨rfl, h3⟩
    exact ⟨rfl, h3.mono hw2.size⟩
   ·rintro e w3 ⟨rfl, h3⟩
    exact ⟨rfl, h3.mono hb1.size⟩
  ·rintro e w3 ⟨rfl, h3⟩
   exact ⟨rfl, hW.trans (h3.mono hW.size), blk_below hf h3⟩
 have HR := Aside0.mk hr
 have KEY := Aside0.mk key
 clear hr hH key
 go_enter Tryz.func42, Tryz.ntmps42
 go_wp2_with fail
 go_loopg [4, 9] l.length (fun g s4 s9 wx => ∃ (i : Nat), s9 = .int .i64 i ∧ i + g = l.length ∧ Aside0 (∀ j (hj : j < i) (hl : j < l.length), ((l[j]'hl).f1.all (P (l[j]'hl))) = true) ∧ Aside0 (Below w.heap.size w wx) ∧ Aside0 (wx.heap[w.heap.size]? = some (.cells #[.func (.func 48) #[] #[]] 72 (0, 0))))
 case atStart => exact ⟨0, rfl, by omega, ⟨fun j hj => by omega⟩, ⟨below_alloc (Below.refl _ _) _⟩, ⟨blk_new _ _⟩⟩
 case round =>
  obtain ⟨i, rfl, hig, HB, HW, HF⟩ := hrel
  cases gk with
  | zero =>
   have hiK : ¬ ((i : Int) < (l.length : Int)) := by omega
   have hn := Aside0.mk (eachP_all P l (fun j hj => HB.out j (by omega) hj))
   go_wp2_with fail
   go_ret
   rw [hn.out]
   exact ⟨rfl, HW.out⟩
  | succ g =>
   have hlt : i < l.length := by omega
   have hiK : (i : Int) < (l.length : Int) := by omega
   have hi0 : (0 : Int) ≤ (i : Int) := by omega
   obtain ⟨ad, A1, c1, rfl, hx0, hx1, hl1, hg1⟩ := at_T30 (Kd.C_below HR.out HW.out) (i : Int) hi0 hiK
   have hel : rd_T30 l (i : Int) = l[i] := rd_some z30 l i hlt
   rw [hel] at hx0 hx1 hl1 hg1
   rw [Int.toNat_natCast] at hx0 hx1
   have HL := Aside0.mk hl1
   have HG := Aside0.mk hg1
   clear hl1 hg1 hel
   have hmem := Aside0.mk (List.getElem_mem hlt)
   obtain ⟨k, hk⟩ : ∃ k, l[i] = k := ⟨_, rfl⟩
   rw [hk] at hx0 hx1 HL HG hmem
   cases hp : k.f1.all (P k) with
   | false =>
    have hn := Aside0.mk (eachP_stop P l i hlt (by rw [hk]; exact hp))
    have hany : (k.f1.any fun r => !P k r) = true := by rw [anyr_not, hp]; rfl
    clear hk
    go_wp2_with (go_at_call 59; refine (KEY.out k hmem.out A1 c1 _ _ (below_alloc HW.out _) HL.out (Kd.C_below HG.out (below_alloc (Below.refl _ _) _)) (blk_below HF.out (below_alloc (Below.refl _ _) _)) (blk_new _ _)).mono ?_; rintro e w2 ⟨rfl, hb2, hf2⟩; rw [hany])
    go_ret
    rw [hn.out]
    exact ⟨rfl, hb2⟩
   | true =>
    have hn := Aside0.mk (show (l[i].f1.all (P l[i])) = true by rw [hk]; exact hp)
    have hany : (k.f1.any fun r => !P k r) = false := by rw [anyr_not, hp]; rfl
    clear hk
    go_wp2_with (go_at_call 59; refine (KEY.out k hmem.out A1 c1 _ _ (below_alloc HW.out _) HL.out (Kd.C_below HG.out (below_alloc (Below.refl _ _) _)) (blk_below HF.out (below_alloc (Below.refl _ _) _)) (blk_new _ _)).mono ?_; rintro e w2 ⟨rfl, hb2, hf2⟩; rw [hany]; have Hb2 := Aside0.mk hb2; have Hf2 := Aside0.mk hf2; clear hb2 hf2)
    go_roundg g
    case measure => omega
    case rel => exact ⟨i + 1, by (rfl), by omega, ⟨fun j hj hl => by
     by_cases e : j = i
     ·subst e; exact hn.out
     ·exact HB.out j (by omega) hl⟩, Hb2, Hf2⟩
set_option maxHeartbeats 1000000 in
set_option maxRecDepth 100000 in
theorem each1_65 (k : S30) (A1 : Option Addr) (c1 : Nat) (r : S35) (A2 : Option Addr) (c2 : Nat) (b b2 : Nat) (Q : Bool) (w : World) (hb : w.heap[b]? = some (.cells #[.func (.func 65) #[] #[]] 72 (0, 0)))
  (hb2 : w.heap[b2]? = some (.cells #[.string k.f0, .slice A1 k.f1.length c1] 30 (0, 0)))
  (hI : ∀ w1, Below w.heap.size w w1 → Calls Tryz.prog 65 #[.agg #[.string k.f0, .slice A1 k.f1.length c1], .agg #[.string r.f0, .string r.f1.f0, .string r.f1.f1, .string r.f1.f2, .slice A2 r.f1.f3.length c2]] w1 fun e w2 => e = .returned (.bool Q) ∧ Below w.heap.size w1 w2) :
  Calls Tryz.prog 60 #[.agg #[.string r.f0, .string r.f1.f0, .string r.f1.f1, .string r.f1.f2, .slice A2 r.f1.f3.length c2], .pointer (some ⟨b, 0, none⟩), .pointer (some ⟨b2, 0, none⟩)] w fun e w' => e = .returned (.bool (!Q)) ∧ Below w.heap.size w w' := by
 have hc := alloc_keeps (cell_of_one hb)
 have hc0 := alloc_keeps (two_cells hb2).1
 have hc1 := alloc_keeps (two_cells hb2).2
 have hW := fun o => (Below.refl w.heap.size w).alloc (Nat.le_refl _) o
 go_enter Tryz.func60, Tryz.ntmps60
 go_wp2_with (go_at_call 65; refine (hI _ (hW _)).mono ?_; rintro e w' ⟨rfl, hb2⟩)
 go_ret
 exact ⟨rfl, (hW _).trans hb2⟩
set_option maxHeartbeats 2000000 in
set_option maxRecDepth 100000 in
theorem each_65 (A0 : Option Addr) (c0 : Nat) (l : List S30) (P : S30 → S35 → Bool) (w : World) (hr : Kd.C k30 w A0 l.length l) (hm : l.length ≤ 1099511627776) (hms : ∀ k ∈ l, k.f1.length ≤ 1099511627776)
  (hH : ∀ k ∈ l, ∀ r ∈ k.f1, ∀ (A1 : Option Addr) (c1 : Nat) (A2 : Option Addr) (c2 : Nat) (w1 : World), Below w.heap.size w w1 → k.f1.length ≤ c1 → k35.C w1 A1 k.f1.length k.f1 → r.f1.f3.length ≤ c2 → k33.C w1 A2 r.f1.f3.length r.f1.f3 →
   Calls Tryz.prog 65 #[.agg #[.string k.f0, .slice A1 k.f1.length c1], .agg #[.string r.f0, .string r.f1.f0, .string r.f1.f1, .string r.f1.f2, .slice A2 r.f1.f3.length c2]] w1 fun e w2 => e = .returned (.bool (P k r)) ∧ Below w1.heap.size w1 w2) :
  Calls Tryz.prog 42 #[.slice A0 l.length c0, .func (.func 65) #[] #[]] w fun e w' => e = .returned (.bool (eachP P l)) ∧ Below w.heap.size w w' := by
 have key : ∀ k ∈ l, ∀ (A1 : Option Addr) (c1 : Nat) (W : World) (b2 : Nat), Below w.heap.size w W → k.f1.length ≤ c1 → k35.C W A1 k.f1.length k.f1 → W.heap[w.heap.size]? = some (.cells #[.func (.func 65) #[] #[]] 72 (0, 0)) → W.heap[b2]? = some (.cells #[.string k.f0, .slice A1 k.f1.length c1] 30 (0, 0)) →
   Calls Tryz.prog 59 #[.slice A1 k.f1.length c1, .func (.func 60) #[] #[.pointer (some ⟨w.heap.size, 0, none⟩), .pointer (some ⟨b2, 0, none⟩)]] W fun e w' => e = .returned (.bool (k.f1.any fun r => !P k r)) ∧ (Below w.heap.size w w' ∧ w'.heap[w.heap.size]? = some (.cells #[.func (.func 65) #[] #[]] 72 (0, 0))) := by
  intro k hk A1 c1 W b2 hW hl hC hf hb2
  refine (contains_59_60 A1 c1 k.f1 w.heap.size b2 (fun r => !P k r) W hC (hms k hk) ?_).mono ?_
  ·intro r hr2 A2 c2 w1 hb1 hl2 hC2
   refine (each1_65 k A1 c1 r A2 c2 w.heap.size b2 (P k r) w1 (blk_below hf hb1) (blk_below hb2 hb1) (fun w2 hw2 => ?_)).mono ?_
   ·have hbw := Nat.le_trans hW.size hb1.size
    refine (hH k hk r hr2 A1 c1 A2 c2 w2 (hW.trans ((hb1.mono hW.size).trans (hw2.mono hbw))) hl (Kd.C_below (Kd.C_below hC hb1) hw2) hl2 (Kd.C_below hC2 hw2)).mono ?_
    rintro e w3 ⟨rfl, h3⟩
    exact ⟨rfl, h3.mono hw2.size⟩
   ·rintro e w3 ⟨rfl, h3⟩
    exact ⟨rfl, h3.mono hb1.size⟩
  ·rintro e w3 ⟨rfl, h3⟩
   exact ⟨rfl, hW.trans (h3.mono hW.size), blk_below hf h3⟩
 have HR := Aside0.mk hr
 have KEY := Aside0.mk key
 clear hr hH key
 go_enter Tryz.func42, Tryz.ntmps42
 go_wp2_with fail
 go_loopg [4, 9] l.length (fun g s4 s9 wx => ∃ (i : Nat), s9 = .int .i64 i ∧ i + g = l.length ∧ Aside0 (∀ j (hj : j < i) (hl : j < l.length), ((l[j]'hl).f1.all (P (l[j]'hl))) = true) ∧ Aside0 (Below w.heap.size w wx) ∧ Aside0 (wx.heap[w.heap.size]? = some (.cells #[.func (.func 65) #[] #[]] 72 (0, 0))))
 case atStart => exact ⟨0, rfl, by omega, ⟨fun j hj => by omega⟩, ⟨below_alloc (Below.refl _ _) _⟩, ⟨blk_new _ _⟩⟩
 case round =>
  obtain ⟨i, rfl, hig, HB, HW, HF⟩ := hrel
  cases gk with
  | zero =>
   have hiK : ¬ ((i : Int) < (l.length : Int)) := by omega
   have hn := Aside0.mk (eachP_all P l (fun j hj => HB.out j (by omega) hj))
   go_wp2_with fail
   go_ret
   rw [hn.out]
   exact ⟨rfl, HW.out⟩
  | succ g =>
   have hlt : i < l.length := by omega
   have hiK : (i : Int) < (l.length : Int) := by omega
   have hi0 : (0 : Int) ≤ (i : Int) := by omega
   obtain ⟨ad, A1, c1, rfl, hx0, hx1, hl1, hg1⟩ := at_T30 (Kd.C_below HR.out HW.out) (i : Int) hi0 hiK
   have hel : rd_T30 l (i : Int) = l[i] := rd_some z30 l i hlt
   rw [hel] at hx0 hx1 hl1 hg1
   rw [Int.toNat_natCast] at hx0 hx1
   have HL := Aside0.mk hl1
   have HG := Aside0.mk hg1
   clear hl1 hg1 hel
   have hmem := Aside0.mk (List.getElem_mem hlt)
   obtain ⟨k, hk⟩ : ∃ k, l[i] = k := ⟨_, rfl⟩
   rw [hk] at hx0 hx1 HL HG hmem
   cases hp : k.f1.all (P k) with
   | false =>
    have hn := Aside0.mk (eachP_stop P l i hlt (by rw [hk]; exact hp))
    have hany : (k.f1.any fun r => !P k r) = true := by rw [anyr_not, hp]; rfl
    clear hk
    go_wp2_with (go_at_call 59; refine (KEY.out k hmem.out A1 c1 _ _ (below_alloc HW.out _) HL.out (Kd.C_below HG.out (below_alloc (Below.refl _ _) _)) (blk_below HF.out (below_alloc (Below.refl _ _) _)) (blk_new _ _)).mono ?_; rintro e w2 ⟨rfl, hb2, hf2⟩; rw [hany])
    go_ret
    rw [hn.out]
    exact ⟨rfl, hb2⟩
   | true =>
    have hn := Aside0.mk (show (l[i].f1.all (P l[i])) = true by rw [hk]; exact hp)
    have hany : (k.f1.any fun r => !P k r) = false := by rw [anyr_not, hp]; rfl
    clear hk
    go_wp2_with (go_at_call 59; refine (KEY.out k hmem.out A1 c1 _ _ (below_alloc HW.out _) HL.out (Kd.C_below HG.out (below_alloc (Below.refl _ _) _)) (blk_below HF.out (below_alloc (Below.refl _ _) _)) (blk_new _ _)).mono ?_; rintro e w2 ⟨rfl, hb2, hf2⟩; rw [hany]; have Hb2 := Aside0.mk hb2; have Hf2 := Aside0.mk hf2; clear hb2 hf2)
    go_roundg g
    case measure => omega
    case rel => exact ⟨i + 1, by (rfl), by omega, ⟨fun j hj hl => by
     by_cases e : j = i
     ·subst e; exact hn.out
     ·exact HB.out j (by omega) hl⟩, Hb2, Hf2⟩
end Go.Proofs.YtjcipbdocbomjaaGreatDoor.K
namespace Go.Proofs.YtjcipbdocbomjaaGreatDoor.K
def namedP (k : S30) (x : S33) : Bool :=
 if (x.f0.toList == ([114, 101, 108] : List UInt8)) = true then k.f1.any (hasP x.f1) else if (x.f0.toList == ([102, 114, 111, 109] : List UInt8)) = true then (k.f1.any (hasP x.f2) && ruleNameP x.f1) else true
theorem words_below {w w1 : World} (h : WordsIn w) (hb : Below w.heap.size w w1) : WordsIn w1 := Kd.C_below h hb
set_option maxHeartbeats 1000000 in
set_option maxRecDepth 100000 in
theorem named_any (k : S30) (x : S33) (A1 : Option Addr) (c1 : Nat) (b : Nat) (A : Option Addr) (c : Nat) (w : World) (hb : w.heap[b]? = some (.cells #[.string k.f0, .slice A k.f1.length c] 30 (0, 0)))
  (hC : k35.C w A k.f1.length k.f1) (hm : k.f1.length ≤ 1099511627776) (hw : WordsIn w) :
  Calls Tryz.prog 66 #[.agg #[.string x.f0, .string x.f1, .string x.f2, .slice A1 x.f3.length c1], .pointer (some ⟨b, 0, none⟩)] w fun e w' => e = .returned (.bool (namedP k x)) ∧ Below w.heap.size w w' := by
 have hc0 := alloc_keeps (two_cells hb).1
 have hc1 := alloc_keeps (two_cells hb).2
 have hB := fun o => below_alloc (Below.refl w.heap.size w) o
 have H := fun o (rel : ByteArray) => has_any k.f0 rel A c k.f1 (w.alloc o) (Kd.C_below hC (hB o)) hm
 have hq := fun (rel : ByteArray) => idxP_any (hasP rel) k.f1
 clear hb hC
 unfold namedP
 cases h1 : (x.f0.toList == ([114, 101, 108] : List UInt8)) with
 | true =>
  rw [if_pos rfl]
  go_enter Tryz.func66, Tryz.ntmps66
  go_wp2_with (go_at_call 37; refine (H _ _).mono ?_; rintro e w' ⟨rfl, hb2⟩)
  go_ret
  exact ⟨by rw [← hq]; rfl, (hB _).trans (hb2.mono (hB _).size)⟩
 | false =>
  rw [if_neg (by decide)]
  cases h2 : (x.f0.toList == ([102, 114, 111, 109] : List UInt8)) with
  | true =>
   rw [if_pos rfl]
   cases h3 : k.f1.any (hasP x.f2) with
   | true =>
    have h4 : decide (idxP (hasP x.f2) k.f1 ≥ 0) = true := by rw [hq, h3]
    go_enter Tryz.func66, Tryz.ntmps66
    go_wp2_with (first | (go_at_call 37; refine (H _ _).mono ?_; rintro e w' ⟨rfl, hb2⟩; have hb3 := (hB _).trans (hb2.mono (hB _).size); have hy : w'.cell? ⟨w.heap.size, 1, none⟩ = some (.string x.f1) := (blk_cell (blk_below (blk_new w (.cells #[.string x.f0, .string x.f1, .string x.f2, .slice A1 x.f3.length c1] 33 (0, 0))) hb2) 1).trans rfl) | (go_at_call 63; refine (name_any x.f1 _ (words_below hw hb3)).mono ?_; rintro e w2 ⟨rfl, hb4⟩))
    go_ret
    exact ⟨by simp, hb3.trans (hb4.mono hb3.size)⟩
   | false =>
    have h4 : decide (idxP (hasP x.f2) k.f1 ≥ 0) = false := by rw [hq, h3]
    go_enter Tryz.func66, Tryz.ntmps66
    go_wp2_with (first | (go_at_call 37; refine (H _ _).mono ?_; rintro e w' ⟨rfl, hb2⟩; have hb3 := (hB _).trans (hb2.mono (hB _).size)))
    go_ret
    exact ⟨by simp, hb3⟩
  | false =>
   rw [if_neg (by decide)]
   go_enter Tryz.func66, Tryz.ntmps66
   go_wp2_with fail
   go_ret
   exact ⟨rfl, hB _⟩
end Go.Proofs.YtjcipbdocbomjaaGreatDoor.K
namespace Go.Proofs.YtjcipbdocbomjaaGreatDoor.K
set_option maxHeartbeats 1000000 in
set_option maxRecDepth 100000 in
theorem names2_any (k : S30) (r : S35) (A1 : Option Addr) (c1 : Nat) (A2 : Option Addr) (c2 : Nat) (w : World) (hC : k35.C w A1 k.f1.length k.f1) (hm : k.f1.length ≤ 1099511627776) (hl : r.f1.f3.length ≤ c2) (hC2 : k33.C w A2 r.f1.f3.length r.f1.f3) (hs : smallE r.f1 = true) (hw : WordsIn w) :
  Calls Tryz.prog 65 #[.agg #[.string k.f0, .slice A1 k.f1.length c1], .agg #[.string r.f0, .string r.f1.f0, .string r.f1.f1, .string r.f1.f2, .slice A2 r.f1.f3.length c2]] w fun e w' => e = .returned (.bool (allP (namedP k) r.f1)) ∧ Below w.heap.size w w' := by
 have key : ∀ (W : World), Below w.heap.size w W → w.heap.size < W.heap.size → W.heap[w.heap.size]? = some (.cells #[.string k.f0, .slice A1 k.f1.length c1] 30 (0, 0)) →
   Calls Tryz.prog 45 #[.agg #[.string r.f1.f0, .string r.f1.f1, .string r.f1.f2, .slice A2 r.f1.f3.length c2], .func (.func 66) #[] #[.pointer (some ⟨w.heap.size, 0, none⟩)]] W fun e w' => e = .returned (.bool (allP (namedP k) r.f1)) ∧ Below w.heap.size w w' := by
  intro W hW hlt hb
  refine (all_66 (namedP k) w.heap.size (w.heap.size + 1) (fun w1 => w1.heap[w.heap.size]? = some (.cells #[.string k.f0, .slice A1 k.f1.length c1] 30 (0, 0)) ∧ k35.C w1 A1 k.f1.length k.f1 ∧ WordsIn w1) ?_ ?_ (SizeOf.sizeOf r.f1 + 1) r.f1 A2 c2 W (by omega) hs (by omega) ⟨hb, Kd.C_below hC hW, words_below hw hW⟩ hl (Kd.C_below hC2 hW)).mono ?_
  ·intro w1 w2 _ h h12
   exact ⟨blk_below h.1 h12, Kd.C_below h.2.1 h12, words_below h.2.2 h12⟩
  ·intro x A c w1 _ h hlx hCx
   exact named_any k x A c w.heap.size A1 c1 w1 h.1 h.2.1 hm h.2.2
  ·rintro e w3 ⟨rfl, h3⟩
   exact ⟨rfl, hW.trans (h3.mono hW.size)⟩
 have hsz := fun (o1 o2 : Obj) => (show w.heap.size < ((w.alloc o1).alloc o2).heap.size by rw [alloc_size, alloc_size]; omega)
 clear hC hC2
 go_enter Tryz.func65, Tryz.ntmps65
 go_wp2_with (go_at_call 45; refine (key _ (below_two w _ _) (hsz _ _) (blk_first w _ _)).mono ?_; rintro e w' ⟨rfl, hb⟩)
 go_ret
 exact ⟨rfl, hb⟩
end Go.Proofs.YtjcipbdocbomjaaGreatDoor.K
namespace Go.Proofs.YtjcipbdocbomjaaGreatDoor.K
def noBut (x : S33) : Bool := x.f0.toList != ([98, 117, 116] : List UInt8)
theorem but11_any (x : S33) (A1 : Option Addr) (c1 : Nat) (w : World) :
  Calls Tryz.prog 49 #[.agg #[.string x.f0, .string x.f1, .string x.f2, .slice A1 x.f3.length c1]] w fun e w' => e = .returned (.bool (noBut x)) ∧ Below w.heap.size w w' := by
 go_enter Tryz.func49, Tryz.ntmps49
 go_wp2
 go_ret
 exact ⟨rfl, below_alloc (Below.refl _ _) _⟩
theorem but1_any (k : S30) (r : S35) (A1 : Option Addr) (c1 : Nat) (A2 : Option Addr) (c2 : Nat) (w : World) (hl : r.f1.f3.length ≤ c2) (hC2 : k33.C w A2 r.f1.f3.length r.f1.f3) (hs : smallE r.f1 = true) :
  Calls Tryz.prog 48 #[.agg #[.string k.f0, .slice A1 k.f1.length c1], .agg #[.string r.f0, .string r.f1.f0, .string r.f1.f1, .string r.f1.f2, .slice A2 r.f1.f3.length c2]] w fun e w' => e = .returned (.bool (allP noBut r.f1)) ∧ Below w.heap.size w w' := by
 have key : ∀ (W : World), Below w.heap.size w W → Calls Tryz.prog 45 #[.agg #[.string r.f1.f0, .string r.f1.f1, .string r.f1.f2, .slice A2 r.f1.f3.length c2], .func (.func 49) #[] #[]] W fun e w' => e = .returned (.bool (allP noBut r.f1)) ∧ Below w.heap.size w w' := by
  intro W hW
  refine (all_49 noBut 0 (fun _ => True) (fun _ _ _ _ _ => trivial) (fun x A c w1 _ _ _ _ => but11_any x A c w1) (SizeOf.sizeOf r.f1 + 1) r.f1 A2 c2 W (by omega) hs (by omega) trivial hl (Kd.C_below hC2 hW)).mono ?_
  rintro e w3 ⟨rfl, h3⟩
  exact ⟨rfl, hW.trans (h3.mono hW.size)⟩
 clear hC2
 go_enter Tryz.func48, Tryz.ntmps48
 go_wp2_with (go_at_call 45; refine (key _ (below_two w _ _)).mono ?_; rintro e w' ⟨rfl, hb⟩)
 go_ret
 exact ⟨rfl, hb⟩
def smallL (l : List S30) : Bool := decide (l.length ≤ 1099511627776) && l.all fun k => decide (k.f1.length ≤ 1099511627776) && k.f1.all fun r => smallE r.f1
theorem smallL_len {l : List S30} (h : smallL l = true) : l.length ≤ 1099511627776 := by
 unfold smallL at h; rw [Bool.and_eq_true, decide_eq_true_eq] at h; exact h.1
theorem smallL_rules {l : List S30} (h : smallL l = true) {k : S30} (hk : k ∈ l) : k.f1.length ≤ 1099511627776 := by
 unfold smallL at h; rw [Bool.and_eq_true, List.all_eq_true] at h
 have := h.2 k hk
 rw [Bool.and_eq_true, decide_eq_true_eq] at this; exact this.1
theorem smallL_expr {l : List S30} (h : smallL l = true) {k : S30} (hk : k ∈ l) {r : S35} (hr : r ∈ k.f1) : smallE r.f1 = true := by
 unfold smallL at h; rw [Bool.and_eq_true, List.all_eq_true] at h
 have := h.2 k hk
 rw [Bool.and_eq_true, List.all_eq_true] at this; exact this.2 r hr
def rule_But.f (l0 : List S30) : Option Bool := if smallL l0 = true then some (!(eachP (fun _ r => allP noBut r.f1) l0)) else none
theorem rule_But.calls (A0 : Option Addr) (c0 : Nat) (l0 : List S30) (r : Bool) (w : World) (hr0 : Kd.C k30 w A0 l0.length l0) (hc0 : l0.length ≤ c0) (h : rule_But.f l0 = some r) :
  Calls Tryz.prog 23 #[.slice A0 l0.length c0] w fun e w' => e = .returned (.bool r) ∧ Below w.heap.size w w' := by
 unfold rule_But.f at h
 by_cases hs : smallL l0 = true
 ·rw [if_pos hs] at h
  obtain rfl := Option.some.inj h
  have key : Calls Tryz.prog 42 #[.slice A0 l0.length c0, .func (.func 48) #[] #[]] w fun e w' => e = .returned (.bool (eachP (fun _ r => allP noBut r.f1) l0)) ∧ Below w.heap.size w w' :=
   each_48 A0 c0 l0 (fun _ r => allP noBut r.f1) w hr0 (smallL_len hs) (fun k hk => smallL_rules hs hk) (fun k hk r hr A1 c1 A2 c2 w1 _ _ _ hl2 hC2 => but1_any k r A1 c1 A2 c2 w1 hl2 hC2 (smallL_expr hs hk hr))
  clear hr0 hc0
  go_enter Tryz.func23, Tryz.ntmps23
  go_wp2_with (go_at_call 42; refine key.mono ?_; rintro e w' ⟨rfl, hb⟩)
  go_ret
  exact ⟨rfl, hb⟩
 ·rw [if_neg hs] at h; exact absurd h (by simp)
end Go.Proofs.YtjcipbdocbomjaaGreatDoor.K
namespace Go.Proofs.YtjcipbdocbomjaaGreatDoor.K
def kindP (name : ByteArray) (x : S30) : Bool := x.f0.toList == name.toList
theorem find1_any (x : S30) (A1 : Option Addr) (c1 : Nat) (b : Nat) (name : ByteArray) (w : World) (hb : w.heap[b]? = some (.cells #[.string name] 9 (0, 0))) :
  Calls Tryz.prog 36 #[.agg #[.string x.f0, .slice A1 x.f1.length c1], .pointer (some ⟨b, 0, none⟩)] w fun e w' => e = .returned (.bool (kindP name x)) ∧ Below w.heap.size w w' := by
 have hc := alloc_keeps (cell_of_one hb)
 go_enter Tryz.func36, Tryz.ntmps36
 go_wp2
 go_ret
 exact ⟨rfl, below_alloc (Below.refl _ _) _⟩
theorem names1_any (x : S30) (A1 : Option Addr) (c1 : Nat) (b : Nat) (name : ByteArray) (v : Value) (w : World) (hb : w.heap[b]? = some (.cells #[.string name, v] 30 (0, 0))) :
  Calls Tryz.prog 64 #[.agg #[.string x.f0, .slice A1 x.f1.length c1], .pointer (some ⟨b, 0, none⟩)] w fun e w' => e = .returned (.bool (kindP name x)) ∧ Below w.heap.size w w' := by
 have hc := alloc_keeps (two_cells hb).1
 go_enter Tryz.func64, Tryz.ntmps64
 go_wp2
 go_ret
 exact ⟨rfl, below_alloc (Below.refl _ _) _⟩
theorem find_kind (A0 : Option Addr) (c0 : Nat) (l : List S30) (name : ByteArray) (b : Nat) (w : World) (hr : Kd.C k30 w A0 l.length l) (hm : l.length ≤ 1099511627776) (hb : w.heap[b]? = some (.cells #[.string name] 9 (0, 0))) :
  Calls Tryz.prog 35 #[.slice A0 l.length c0, .func (.func 36) #[] #[.pointer (some ⟨b, 0, none⟩)]] w fun e w' => e = .returned (.int .i64 (idxP (kindP name) l)) ∧ Below w.heap.size w w' :=
 indexFunc_35_36 A0 c0 l b (kindP name) w hr hm (fun x _ A1 c1 w1 hb1 _ _ => (find1_any x A1 c1 b name w1 (blk_below hb hb1)).mono (by rintro e w2 ⟨rfl, h2⟩; exact ⟨rfl, h2.mono hb1.size⟩))
theorem names_kind (A0 : Option Addr) (c0 : Nat) (l : List S30) (name : ByteArray) (v : Value) (b : Nat) (w : World) (hr : Kd.C k30 w A0 l.length l) (hm : l.length ≤ 1099511627776) (hb : w.heap[b]? = some (.cells #[.string name, v] 30 (0, 0))) :
  Calls Tryz.prog 35 #[.slice A0 l.length c0, .func (.func 64) #[] #[.pointer (some ⟨b, 0, none⟩)]] w fun e w' => e = .returned (.int .i64 (idxP (kindP name) l)) ∧ Below w.heap.size w w' :=
 indexFunc_35_64 A0 c0 l b (kindP name) w hr hm (fun x _ A1 c1 w1 hb1 _ _ => (names1_any x A1 c1 b name v w1 (blk_below hb hb1)).mono (by rintro e w2 ⟨rfl, h2⟩; exact ⟨rfl, h2.mono hb1.size⟩))
theorem many_any (A0 : Option Addr) (c0 : Nat) (l : List S30) (w : World) (hr : Kd.C k30 w A0 l.length l) (hm : l.length ≤ 1099511627776) :
  Calls Tryz.prog 40 #[.slice A0 l.length c0, .func (.func 41) #[] #[]] w fun e w' => e = .returned (.bool (l.any fun k => decide ((k.f1.length : Int) > 64))) ∧ Below w.heap.size w w' :=
 contains_40_41 A0 c0 l (fun k => decide ((k.f1.length : Int) > 64)) w hr hm (fun x _ A1 c1 w1 hb1 _ _ => (check1_any x A1 c1 w1).mono (by rintro e w2 ⟨rfl, h2⟩; exact ⟨rfl, h2.mono hb1.size⟩))
theorem eachNames_any (A0 : Option Addr) (c0 : Nat) (l : List S30) (w : World) (hr : Kd.C k30 w A0 l.length l) (hs : smallL l = true) (hw : WordsIn w) :
  Calls Tryz.prog 42 #[.slice A0 l.length c0, .func (.func 65) #[] #[]] w fun e w' => e = .returned (.bool (eachP (fun k r => allP (namedP k) r.f1) l)) ∧ Below w.heap.size w w' :=
 each_65 A0 c0 l (fun k r => allP (namedP k) r.f1) w hr (smallL_len hs) (fun k hk => smallL_rules hs hk) (fun k hk r hr A1 c1 A2 c2 w1 hb _ hC hl2 hC2 => names2_any k r A1 c1 A2 c2 w1 hC (smallL_rules hs hk) hl2 hC2 (smallL_expr hs hk hr) (words_below hw hb))
end Go.Proofs.YtjcipbdocbomjaaGreatDoor.K
namespace Go.Proofs.YtjcipbdocbomjaaGreatDoor.K
def okR (k : S30) (j : Nat) (r : S35) : Bool := ruleNameP r.f0 && (idxP (hasP r.f0) k.f1 == (j : Int))
def okRs (k : S30) : Bool := (List.range k.f1.length).all fun j => okR k j (k.f1.getD j z35)
def okK (l : List S30) (i : Nat) (k : S30) : Bool := ruleNameP k.f0 && (idxP (kindP k.f0) l == (i : Int)) && okRs k
def okKs (l : List S30) : Bool := (List.range l.length).all fun i => okK l i (l.getD i z30)
theorem okKs_stop (l : List S30) (i : Nat) (hi : i < l.length) (k : S30) (hk : l[i] = k) (h : okK l i k = false) : okKs l = false := by
 unfold okKs
 rw [← Bool.not_eq_true, List.all_eq_true]
 intro e
 have := e i (List.mem_range.mpr hi)
 have hg : l.getD i z30 = k := by simp [hi, hk]
 rw [hg, h] at this
 cases this
theorem okKs_all (l : List S30) (h : ∀ j (hj : j < l.length), okK l j l[j] = true) : okKs l = true := by
 unfold okKs
 rw [List.all_eq_true]
 intro j hj
 have hj := List.mem_range.mp hj
 have hg : l.getD j z30 = l[j] := by simp [hj]
 rw [hg]; exact h j hj
theorem okRs_stop (k : S30) (i : Nat) (hi : i < k.f1.length) (r : S35) (hr : k.f1[i] = r) (h : okR k i r = false) : okRs k = false := by
 unfold okRs
 rw [← Bool.not_eq_true, List.all_eq_true]
 intro e
 have := e i (List.mem_range.mpr hi)
 have hg : k.f1.getD i z35 = r := by simp [hi, hr]
 rw [hg, h] at this
 cases this
theorem okRs_all (k : S30) (h : ∀ j (hj : j < k.f1.length), okR k j k.f1[j] = true) : okRs k = true := by
 unfold okRs
 rw [List.all_eq_true]
 intro j hj
 have hj := List.mem_range.mp hj
 have hg : k.f1.getD j z35 = k.f1[j] := by simp [hj]
 rw [hg]; exact h j hj
set_option maxHeartbeats 4000000 in
set_option maxRecDepth 100000 in
theorem names_any (A0 : Option Addr) (c0 : Nat) (l : List S30) (w : World) (hr : Kd.C k30 w A0 l.length l) (hs : smallL l = true) (hw : WordsIn w) :
  Calls Tryz.prog 47 #[.slice A0 l.length c0] w fun e w' => e = .returned (.bool (okKs l && eachP (fun k r => allP (namedP k) r.f1) l)) ∧ Below w.heap.size w w' := by
 have HR := Aside0.mk hr
 have HWD := Aside0.mk hw
 have hm := smallL_len hs
 have HS := Aside0.mk hs
 clear hr hw hs
 go_enter Tryz.func47, Tryz.ntmps47
 go_wp2_with fail
 go_loopg [2, 9] l.length (fun g s2 s9 wx => ∃ (i : Nat), s9 = .int .i64 i ∧ i + g = l.length ∧ Aside0 (∀ j (hj : j < i) (hl : j < l.length), okK l j (l[j]'hl) = true) ∧ Aside0 (Below w.heap.size w wx))
 case atStart => exact ⟨0, rfl, by omega, ⟨fun j hj => by omega⟩, ⟨Below.refl _ _⟩⟩
 case round =>
  obtain ⟨i, rfl, hig, HB, HW⟩ := hrel
  cases gk with
  | zero =>
   have hiK : ¬ ((i : Int) < (l.length : Int)) := by omega
   have hn := Aside0.mk (okKs_all l (fun j hj => HB.out j (by omega) hj))
   go_wp2_with (go_at_call 42; refine (eachNames_any A0 c0 l _ (Kd.C_below HR.out HW.out) HS.out (words_below HWD.out HW.out)).mono ?_; rintro e w2 ⟨rfl, hb2⟩)
   go_ret
   rw [hn.out]
   exact ⟨by simp, HW.out.trans (hb2.mono HW.out.size)⟩
  | succ g =>
   have hlt : i < l.length := by omega
   have hiK : (i : Int) < (l.length : Int) := by omega
   have hi0 : (0 : Int) ≤ (i : Int) := by omega
   obtain ⟨ad, A1, c1, rfl, hx0, hx1, hl1, hg1⟩ := at_T30 (Kd.C_below HR.out HW.out) (i : Int) hi0 hiK
   have hel : rd_T30 l (i : Int) = l[i] := rd_some z30 l i hlt
   rw [hel] at hx0 hx1 hl1 hg1
   rw [Int.toNat_natCast] at hx0 hx1
   have HL := Aside0.mk hl1
   have HG := Aside0.mk hg1
   clear hl1 hg1 hel
   have hmem := Aside0.mk (List.getElem_mem hlt)
   obtain ⟨k, hk⟩ : ∃ k, l[i] = k := ⟨_, rfl⟩
   rw [hk] at hx0 hx1 HL HG hmem
   have HN := fun (o : Obj) => name_any k.f0 (wr.alloc o) (words_below (words_below HWD.out HW.out) (below_alloc (Below.refl _ _) _))
   cases hp : ruleNameP k.f0 with
   | false =>
    have hn := Aside0.mk (okKs_stop l i hlt k hk (by unfold okK; rw [hp]; rfl))
    clear hk
    go_wp2_with (go_at_call 63; refine (HN _).mono ?_; rintro e w2 ⟨rfl, hb2⟩; rw [hp])
    go_ret
    rw [hn.out]
    exact ⟨rfl, HW.out.trans ((below_alloc (Below.refl _ _) _).trans (hb2.mono (by rw [alloc_size]; omega)) |>.mono HW.out.size)⟩
   | true =>
    have HNK := fun (w2 : World) (hb2 : Below wr.heap.size wr w2) (v : Value) (hf : w2.heap[wr.heap.size]? = some (.cells #[.string k.f0, v] 30 (0, 0))) => names_kind (some ad) c0 l k.f0 v wr.heap.size w2 (Kd.C_below HR.out (HW.out.trans (hb2.mono HW.out.size))) hm hf
    have hal := fun (o : Obj) (w2 : World) (hb2 : Below (wr.alloc o).heap.size (wr.alloc o) w2) => (show Below wr.heap.size wr w2 from (below_alloc (Below.refl _ _) o).trans (hb2.mono (by rw [alloc_size]; omega)))
    by_cases hi : idxP (kindP k.f0) l = (i : Int)
    ·have hi1 : (idxP (kindP k.f0) l != (i : Int)) = false := by simpa using hi
     have hi2 : (idxP (kindP k.f0) l == (i : Int)) = true := by simpa using hi
     go_wp2_with (first | (go_at_call 63; refine (HN _).mono ?_; rintro e w2 ⟨rfl, hb2⟩; rw [hp]; have hb3 := hal _ _ hb2; have hf := blk_below (blk_new wr _) hb2) | (go_at_call 35; refine (HNK _ hb3 _ hf).mono ?_; rintro e w3 ⟨rfl, hb4⟩; have hf2 := blk_below hf hb4; have hg0 := (two_cells hf2).1; have hg1 := (two_cells hf2).2; have hb5 := hb3.trans (hb4.mono hb3.size)))
     have HF2 := Aside0.mk hf2
     have HB5 := Aside0.mk hb5
     have HHK := Aside0.mk hk
     clear HN HNK hal hb2 hb3 hb4 hf hf2 hg0 hg1 hb5 hk
     have hmk := smallL_rules HS.out hmem.out
     go_loopg [2, 28] k.f1.length (fun g s2 s28 wx => ∃ (j : Nat), s28 = .int .i64 j ∧ j + g = k.f1.length ∧ Aside0 (∀ n (hn : n < j) (hl : n < k.f1.length), okR k n (k.f1[n]'hl) = true) ∧ Aside0 (Below wr.heap.size wr wx) ∧ Aside0 (wx.heap[wr.heap.size]? = some (.cells #[.string k.f0, .slice A1 k.f1.length c1] 30 (0, 0))))
     case atStart => exact ⟨0, rfl, by omega, ⟨fun n hn => by omega⟩, HB5, HF2⟩
     case round =>
      obtain ⟨j, rfl, hjg, HJ, HX, HFX⟩ := hrel
      cases gk with
      | zero =>
       have hjK : ¬ ((j : Int) < (k.f1.length : Int)) := by omega
       have hok : okK l i k = true := by
        unfold okK
        rw [hp, hi2, okRs_all k (fun n hn => HJ.out n (by omega) hn)]; rfl
       go_wp2_with fail
       go_roundg g
       case measure => omega
       case rel => exact ⟨i + 1, by (rfl), by omega, ⟨fun n hn hl => by
        by_cases e : n = i
        ·subst e; rw [HHK.out]; exact hok
        ·exact HB.out n (by omega) hl⟩, ⟨HW.out.trans (HX.out.mono HW.out.size)⟩⟩
      | succ g2 =>
       have hjt : j < k.f1.length := by omega
       have hjK : (j : Int) < (k.f1.length : Int) := by omega
       have hj0 : (0 : Int) ≤ (j : Int) := by omega
       obtain ⟨ad2, A2, c2, rfl, hy0, hy1, hy2, hy3, hy4, hl2, hg2⟩ := at_T35 (Kd.C_below HG.out HX.out) (j : Int) hj0 hjK
       have hel : rd_T35 k.f1 (j : Int) = k.f1[j] := rd_some z35 k.f1 j hjt
       rw [hel] at hy0 hy1 hy2 hy3 hy4 hl2 hg2
       rw [Int.toNat_natCast] at hy0 hy1 hy2 hy3 hy4
       clear hl2 hg2 hel
       obtain ⟨r, hr⟩ : ∃ r, k.f1[j] = r := ⟨_, rfl⟩
       rw [hr] at hy0 hy1 hy2 hy3 hy4
       have HWX := Aside0.mk (HW.out.trans (HX.out.mono HW.out.size))
       have HN2 := fun (o : Obj) => name_any r.f0 (wr.alloc o) (words_below (words_below HWD.out HWX.out) (below_alloc (Below.refl _ _) _))
       have hal2 := fun (o : Obj) (w2 : World) (hb2 : Below (wr.alloc o).heap.size (wr.alloc o) w2) => (show Below wr.heap.size wr w2 from (below_alloc (Below.refl _ _) o).trans (hb2.mono (by rw [alloc_size]; omega)))
       have HH := fun (w2 : World) (hb2 : Below wr.heap.size wr w2) => has_any k.f0 r.f0 (some ad2) c1 k.f1 w2 (Kd.C_below (Kd.C_below HG.out HX.out) hb2) hmk
       have hstop := fun (h : okR k j r = false) => Aside0.mk (okKs_stop l i hlt k HHK.out (by unfold okK; rw [okRs_stop k j hjt r hr h]; simp))
       cases hq : ruleNameP r.f0 with
       | false =>
        have hn := hstop (by unfold okR; rw [hq]; rfl)
        clear hr HH hstop
        go_wp2_with (go_at_call 63; refine (HN2 _).mono ?_; rintro e w2 ⟨rfl, hb2⟩; rw [hq]; have hb3 := hal2 _ _ hb2)
        go_ret
        rw [hn.out]
        exact ⟨rfl, HWX.out.trans (hb3.mono HWX.out.size)⟩
       | true =>
        by_cases hj : idxP (hasP r.f0) k.f1 = (j : Int)
        ·have hj1 : (idxP (hasP r.f0) k.f1 != (j : Int)) = false := by simpa using hj
         have hn := Aside0.mk (show okR k j k.f1[j] = true by rw [hr]; unfold okR; rw [hq, hj]; simp)
         clear hr hstop
         go_wp2_with (first | (go_at_call 63; refine (HN2 _).mono ?_; rintro e w2 ⟨rfl, hb2⟩; rw [hq]; have hb3 := hal2 _ _ hb2; have hk0 := (two_cells (blk_below HFX.out hb3)).1; have hk1 := (two_cells (blk_below HFX.out hb3)).2; have hf6 := (blk_cell (blk_below (blk_new wr _) hb2) 0).trans rfl; have hfx := blk_below HFX.out hb3) | (go_at_call 37; refine (HH _ hb3).mono ?_; rintro e w3 ⟨rfl, hb4⟩; have Hb5 := Aside0.mk (HX.out.trans ((hb3.trans (hb4.mono hb3.size)).mono HX.out.size)); have Hfx := Aside0.mk (blk_below hfx hb4)))
         go_roundg g2
         case measure => omega
         case rel => exact ⟨j + 1, by (rfl), by omega, ⟨fun n hn2 hl => by
          by_cases e : n = j
          ·subst e; exact hn.out
          ·exact HJ.out n (by omega) hl⟩, Hb5, Hfx⟩
        ·have hj1 : (idxP (hasP r.f0) k.f1 != (j : Int)) = true := by simpa using hj
         have hn := hstop (by unfold okR; rw [hq]; simpa using hj)
         clear hr hstop
         go_wp2_with (first | (go_at_call 63; refine (HN2 _).mono ?_; rintro e w2 ⟨rfl, hb2⟩; rw [hq]; have hb3 := hal2 _ _ hb2; have hk0 := (two_cells (blk_below HFX.out hb3)).1; have hk1 := (two_cells (blk_below HFX.out hb3)).2; have hf6 := (blk_cell (blk_below (blk_new wr _) hb2) 0).trans rfl) | (go_at_call 37; refine (HH _ hb3).mono ?_; rintro e w3 ⟨rfl, hb4⟩; have hb5 := hb3.trans (hb4.mono hb3.size)))
         go_ret
         rw [hn.out]
         exact ⟨rfl, HWX.out.trans (hb5.mono HWX.out.size)⟩
    ·have hi1 : (idxP (kindP k.f0) l != (i : Int)) = true := by simpa using hi
     have hi2 : (idxP (kindP k.f0) l == (i : Int)) = false := by simpa using hi
     have hn := Aside0.mk (okKs_stop l i hlt k hk (by unfold okK; rw [hp, hi2]; rfl))
     clear hk
     go_wp2_with (first | (go_at_call 63; refine (HN _).mono ?_; rintro e w2 ⟨rfl, hb2⟩; rw [hp]; have hb3 := hal _ _ hb2; have hf := blk_below (blk_new wr _) hb2) | (go_at_call 35; refine (HNK _ hb3 _ hf).mono ?_; rintro e w3 ⟨rfl, hb4⟩))
     go_ret
     rw [hn.out]
     exact ⟨rfl, HW.out.trans ((hb3.trans (hb4.mono hb3.size)).mono HW.out.size)⟩
end Go.Proofs.YtjcipbdocbomjaaGreatDoor.K
