/- Users' texts, as plain functions; conditions: as each states. -/
import Derived.Test.YtggcipjdhhnnkaaDoorTG5
import Derived.Test.YtggcipjdhhnnkaaDoorPMf
import Derived.Test.YtggcipjdhhnnkaaDoorPMg
namespace Go.Proofs.YtggcipjdhhnnkaaDoor.K
set_option linter.unusedVariables false
set_option linter.unusedSimpArgs false
open Go.RowKit Go.Proofs.YtggcipjdhhnnkaaDoorW.PrintWords Go.Proofs.YtggcipjdhhnnkaaDoorW.PrintLast Go.Proofs.YtggcipjdhhnnkaaDoorW.PrintMore
open Go.Proofs.YtggcipjdhhnnkaaDoor.PL

theorem rshowuser (a b c : ByteArray) (h : a.size + b.size + c.size ≤ 1099511627776) : lunetteref11_ShowUser.f a b c = some (mk (textL a.data.toList b.data.toList c.data.toList)) := by
  unfold lunetteref11_ShowUser.f textL
  have e1 : (⟨#[58]⟩ : ByteArray).size = 1 := rfl
  have e2 : (⟨#[35]⟩ : ByteArray).size = 1 := rfl
  simp only [ByteArray.size_append, e1, e2]
  by_cases hc : c.toList = []
  · have hc2 := (nil_iff c).1 hc
    rw [if_pos hc, if_pos hc2, if_pos (by omega), if_pos (by omega)]
    congr 1; apply data_inj; rw [mk_data]; simp
  · have hc2 : ¬ c.data.toList = [] := fun e => hc ((nil_iff c).2 e)
    rw [if_neg hc, if_neg hc2, if_pos (by omega), if_pos (by omega), if_pos (by omega), if_pos (by omega)]
    congr 1; apply data_inj; rw [mk_data]; simp
theorem rshow (a b c d e f : ByteArray) (h : a.size + b.size + c.size ≤ 549755813888) (h2 : d.size + e.size + f.size ≤ 549755813888) (hc : c.data.toList ≠ []) :
    lunetteref11_Show.f a b c d e f = some (mk (showL a.data.toList b.data.toList c.data.toList d.data.toList e.data.toList f.data.toList)) := by
  unfold lunetteref11_Show.f showL
  have e1 : (⟨#[58]⟩ : ByteArray).size = 1 := rfl
  have e2 : (⟨#[35]⟩ : ByteArray).size = 1 := rfl
  have e3 : (⟨#[64]⟩ : ByteArray).size = 1 := rfl
  have hl := textL_length d.data.toList e.data.toList f.data.toList
  rw [data_length, data_length, data_length] at hl
  simp only [ByteArray.size_append, e1, e2, e3, rshowuser d e f (by omega), Option.bind_some, mk_size]
  rw [if_pos (by omega), if_pos (by omega), if_pos (by omega), if_pos (by omega), if_pos (by omega), if_pos (by omega)]
  congr 1; apply data_inj; rw [mk_data]; simp only [data_append, mk_data]
  conv => rhs; unfold textL
  rw [if_neg hc]
  simp [textL]
theorem tshowuser (a b c : ByteArray) : tuple_ShowUser.f a b c = some (if userP a b c = true then (mk (textL a.data.toList b.data.toList c.data.toList), 0) else (⟨#[]⟩, 111)) := by
  unfold tuple_ShowUser.f
  rw [tuser]
  by_cases h : userP a b c = true
  · have u := user_facts h
    have := u.sa; have := u.sb; have := u.sc
    rw [h]
    simp only [Option.bind_some, if_true]
    rw [ttext a b c (by omega)]
    rfl
  · have h2 : userP a b c = false := by simpa using h
    rw [h2]; rfl

theorem read_user {a b c : ByteArray} (h : userP a b c = true) : tuple_ReadUser.f (mk (textL a.data.toList b.data.toList c.data.toList)) = some (a, b, c, 0) := by
  have u := user_facts h
  have h1 := u.sa; have h2 := u.sb; have h3 := u.sc
  unfold tuple_ReadUser.f
  rw [parse_text u]
  simp only [Option.bind_some]
  rw [tuser, h]
  simp only [Option.bind_some, if_true]
  rw [ttext a b c (by omega)]
  simp
end Go.Proofs.YtggcipjdhhnnkaaDoor.K
