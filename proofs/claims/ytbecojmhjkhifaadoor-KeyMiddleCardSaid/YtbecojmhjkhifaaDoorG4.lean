/- What the printed After of the key layer comes to; for texts of everyday size. -/
import Derived.Test.YtbecojmhjkhifaaDoorG3
namespace Go.Proofs.YtbecojmhjkhifaaDoor.K
set_option linter.unusedVariables false
set_option linter.unusedSimpArgs false
open Go.RowKit Go.Proofs.YtbecojmhjkhifaaDoorW.PrintWords Go.Proofs.YtbecojmhjkhifaaDoorW.PrintLast Go.Proofs.YtbecojmhjkhifaaDoorW.PrintMore
open Go.Proofs.YtbecojmhjkhifaaDoor.PL

theorem mk_get (l : List UInt8) (j : Nat) (h : j < (mk l).size) : (mk l)[j] = l[j]'(by rw [mk_size] at h; exact h) := by
  rfl
theorem bt_mk (l : List UInt8) (j : Nat) (h : j < l.length) : bt (mk l) (j : Int) = (l[j].toNat : Int) := by
  rw [bt_byte (mk l) j (by rw [mk_size]; exact h), mk_get]
theorem take_mk (l : List UInt8) (j : Nat) : (mk l).extract 0 j = mk (l.take j) := data_inj (by rw [Lib.extract_data, mk_data, mk_data, List.drop_zero, Nat.sub_zero])
theorem last_mk (u : List UInt8) (c : UInt8) : bt (mk (u ++ [c])) (u.length : Int) = (c.toNat : Int) := by
  rw [bt_mk _ _ (by simp)]; simp
theorem nil_mk : (⟨#[]⟩ : ByteArray) = mk [] := rfl
def up (c : UInt8) : UInt8 := UInt8.ofNat (c.toNat + 1)
theorem up_nat {c : UInt8} (h : c ≠ 255) : (up c).toNat = c.toNat + 1 := by
  have h1 := c.toNat_lt
  have h2 : c.toNat ≠ 255 := fun e => h (UInt8.toNat_inj.1 e)
  unfold up
  rw [UInt8.toNat_ofNat']; omega
theorem after_full (u : List UInt8) (hu : u.length ≤ 1099511627776) (k : Nat) : key_After.l0 (k + 1) (mk (u ++ [255])) = key_After.l0 k (mk u) := by
  simp only [key_After.l0]
  have hs : ((mk (u ++ [255])).size : Int) = (u.length : Int) + 1 := by rw [mk_size]; simp
  have hw : wrap64 ((u.length : Int) + 1 - 1) = (u.length : Int) := by rw [w64 (by omega) (by omega)]; omega
  rw [hs, hw, if_pos (by omega), if_pos (by omega), if_pos (by omega), last_mk, if_pos (by decide), if_pos (by omega), Int.toNat_natCast, take_mk]
  simp
theorem after_done (u : List UInt8) (c : UInt8) (hc : c ≠ 255) (hu : u.length ≤ 1099511627776) (k : Nat) : key_After.l0 (k + 1) (mk (u ++ [c])) = some (mk (u ++ [up c]), true) := by
  simp only [key_After.l0]
  have hs : ((mk (u ++ [c])).size : Int) = (u.length : Int) + 1 := by rw [mk_size]; simp
  have hw : wrap64 ((u.length : Int) + 1 - 1) = (u.length : Int) := by rw [w64 (by omega) (by omega)]; omega
  have hc2 : ¬ (c.toNat : Int) = 255 := fun e => hc (UInt8.toNat_inj.1 (by show _ = 255; omega))
  have hlt := c.toNat_lt
  have hne : ¬ (mk (u ++ [c])).toList = [] := by rw [ByteArray.toList_eq, mk_data]; simp
  have hnum : strOfNums [((c.toNat : Int) + 1) % 256] = mk [up c] := by
    unfold strOfNums mk up
    have hc3 : c.toNat ≠ 255 := fun e => hc (UInt8.toNat_inj.1 e)
    have : (((c.toNat : Int) + 1) % 256).toNat = c.toNat + 1 := by omega
    simp only [List.map_cons, List.map_nil, this]
  rw [hs, hw, if_pos (by omega), if_pos (by omega), if_pos (by omega), last_mk, if_neg hc2, if_neg hne, if_pos (by omega), Int.toNat_natCast, take_mk]
  simp only [Option.bind_some, hnum]
  rw [show (u ++ [c]).take u.length = u by simp, mk_size, mk_size, if_pos (by simp only [List.length_cons, List.length_nil]; omega), mk_append]
theorem after_some (u : List UInt8) (c : UInt8) (hc : c ≠ 255) (hu : u.length ≤ 1099511627776) : ∀ n : Nat, n + u.length + 1 ≤ 1099511627776 → Ev (fun k => key_After.f k (mk (u ++ c :: List.replicate n 255))) (mk (u ++ [up c]), true)
  | 0, _ => Ev.step (fun k => after_done u c hc hu k) (Ev.now _)
  | n + 1, h => by
    have e : u ++ c :: List.replicate (n + 1) (255 : UInt8) = (u ++ c :: List.replicate n 255) ++ [255] := by rw [List.replicate_succ', List.append_assoc]; rfl
    rw [e]
    exact Ev.step (fun k => after_full _ (by simp; omega) k) (after_some u c hc hu n (by omega))
theorem after_none : ∀ n : Nat, n ≤ 1099511627776 → Ev (fun k => key_After.f k (mk (List.replicate n 255))) (mk [], false)
  | 0, _ => Ev.step (f := fun _ => some (mk [], false)) (fun k => by show key_After.l0 (k + 1) (mk []) = _; simp [key_After.l0, mk_size, ByteArray.toList_eq, mk_data, nil_mk]) (Ev.now _)
  | n + 1, h => by
    rw [List.replicate_succ']
    exact Ev.step (fun k => after_full _ (by simp; omega) k) (after_none n (by omega))
/-- A text is bytes 255 alone, or ends in one that isn't, and such bytes behind it. -/
theorem tail_cases (l : List UInt8) : (∃ n, l = List.replicate n 255) ∨ ∃ u c n, c ≠ 255 ∧ l = u ++ c :: List.replicate n (255 : UInt8) := by
  induction l with
  | nil => exact .inl ⟨0, rfl⟩
  | cons b l ih =>
    rcases ih with ⟨n, rfl⟩ | ⟨u, c, n, hc, rfl⟩
    · by_cases hb : b = 255
      · exact .inl ⟨n + 1, by rw [hb, List.replicate_succ]⟩
      · exact .inr ⟨[], b, n, hb, rfl⟩
    · exact .inr ⟨b :: u, c, n, hc, rfl⟩
end Go.Proofs.YtbecojmhjkhifaaDoor.K
