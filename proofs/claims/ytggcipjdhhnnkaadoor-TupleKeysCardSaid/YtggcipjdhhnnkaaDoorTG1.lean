/- Names and ids: what the document's answer comes to; conditions: as each states. -/
import Derived.Test.YtggcipjdhhnnkaaDoorTG0
import Derived.Test.YtggcipjdhhnnkaaDoorPMb
namespace Go.Proofs.YtggcipjdhhnnkaaDoor.K
set_option linter.unusedVariables false
set_option linter.unusedSimpArgs false
open Go.RowKit Go.Proofs.YtggcipjdhhnnkaaDoorW.PrintWords Go.Proofs.YtggcipjdhhnnkaaDoorW.PrintLast Go.Proofs.YtggcipjdhhnnkaaDoorW.PrintMore
open Go.Proofs.YtggcipjdhhnnkaaDoor.PL


theorem rName_step (s : ByteArray) (hs : s.size ≤ 1099511627776) (i : Nat) (hi : i < s.size) (k : Nat) :
    lunetteref11_Name.l0 (k + 1) s (i : Int) = if nameC i (bt s i) = true then lunetteref11_Name.l0 k s ((i + 1 : Nat) : Int) else some false := by
  simp only [lunetteref11_Name.l0]
  rw [if_pos (by omega), if_pos (by omega), w64 (by omega) (by omega), show (i : Int) + 1 = ((i + 1 : Nat) : Int) by omega]
  generalize bt s (i : Int) = c
  unfold nameC letterB digitB
  by_cases h0 : 97 ≤ c <;> by_cases h1 : c ≤ 122 <;> by_cases h2 : 0 < i <;> by_cases h3 : 48 ≤ c <;> by_cases h4 : c ≤ 57 <;> by_cases h5 : c = 95 <;> simp [*]
theorem rName_end (s : ByteArray) (k : Nat) :
    lunetteref11_Name.l0 (k + 1) s (s.size : Int) = some (decide (1 ≤ s.size) && decide (s.size ≤ 12)) := by
  simp only [lunetteref11_Name.l0]
  rw [if_neg (by omega)]
  by_cases h : 1 ≤ s.size
  · rw [if_pos (by omega), decide_eq_true h, Bool.true_and]; exact congrArg some (le_cast s.size 12)
  · rw [if_neg (by omega), decide_eq_false h]; rfl
theorem rName_all (s : ByteArray) (hs : s.size ≤ 1099511627776) (h : ∀ j, j < s.size → nameC j (bt s j) = true) (d : Nat) : ∀ i : Nat, i ≤ s.size → s.size - i = d →
    Ev (fun k => lunetteref11_Name.l0 k s (i : Int)) (decide (1 ≤ s.size) && decide (s.size ≤ 12)) := by
  induction d with
  | zero =>
    intro i hi hd
    obtain rfl : i = s.size := by omega
    exact Ev.step (f := fun _ => some _) (fun k => rName_end s k) (Ev.now _)
  | succ d ih =>
    intro i hi hd
    refine Ev.step (f := fun k => lunetteref11_Name.l0 k s ((i + 1 : Nat) : Int)) (fun k => ?_) (ih (i + 1) (by omega) (by omega))
    rw [rName_step s hs i (by omega) k, if_pos (h i (by omega))]
theorem rName_bad (s : ByteArray) (hs : s.size ≤ 1099511627776) (j : Nat) (hj : j < s.size) (h : nameC j (bt s j) = false) (d : Nat) : ∀ i : Nat, i ≤ j → j - i = d →
    Ev (fun k => lunetteref11_Name.l0 k s (i : Int)) false := by
  induction d with
  | zero =>
    intro i hi hd
    obtain rfl : i = j := by omega
    refine Ev.step (f := fun _ => some false) (fun k => ?_) (Ev.now _)
    rw [rName_step s hs i hj k, h, if_neg (by decide)]
  | succ d ih =>
    intro i hi hd
    by_cases hc : nameC i (bt s i) = true
    · refine Ev.step (f := fun k => lunetteref11_Name.l0 k s ((i + 1 : Nat) : Int)) (fun k => ?_) (ih (i + 1) (by omega) (by omega))
      rw [rName_step s hs i (by omega) k, if_pos hc]
    · refine Ev.step (f := fun _ => some false) (fun k => ?_) (Ev.now _)
      rw [rName_step s hs i (by omega) k, if_neg hc]
theorem rName_ev (s : ByteArray) (hs : s.size ≤ 1099511627776) : Ev (fun k => lunetteref11_Name.f k s) (madeB nameC 12 s) := by
  by_cases h : ∀ j, j < s.size → nameC j (bt s j) = true
  · rw [made_all nameC 12 s h]
    exact rName_all s hs h s.size 0 (by omega) (by omega)
  · have ⟨j, hj⟩ := Classical.not_forall.mp h
    have ⟨hj1, hj2⟩ := Classical.not_imp.mp hj
    have hj3 : nameC j (bt s j) = false := by simpa using hj2
    rw [made_stops nameC 12 s j hj1 hj3]
    exact rName_bad s hs j hj1 hj3 j 0 (by omega) (by omega)

theorem rID_step (s : ByteArray) (hs : s.size ≤ 1099511627776) (i : Nat) (hi : i < s.size) (k : Nat) :
    lunetteref11_ID.l0 (k + 1) s (i : Int) = if idC i (bt s i) = true then lunetteref11_ID.l0 k s ((i + 1 : Nat) : Int) else some false := by
  simp only [lunetteref11_ID.l0]
  rw [if_pos (by omega), if_pos (by omega), w64 (by omega) (by omega), show (i : Int) + 1 = ((i + 1 : Nat) : Int) by omega]
  generalize bt s (i : Int) = c
  unfold idC letterB digitB
  by_cases h0 : 97 ≤ c <;> by_cases h1 : c ≤ 122 <;> by_cases h2 : 48 ≤ c <;> by_cases h3 : c ≤ 57 <;> by_cases h4 : c = 95 <;> by_cases h5 : c = 45 <;> by_cases h6 : c = 46 <;> simp [*]
theorem rID_end (s : ByteArray) (k : Nat) :
    lunetteref11_ID.l0 (k + 1) s (s.size : Int) = some (decide (1 ≤ s.size) && decide (s.size ≤ 16)) := by
  simp only [lunetteref11_ID.l0]
  rw [if_neg (by omega)]
  by_cases h : 1 ≤ s.size
  · rw [if_pos (by omega), decide_eq_true h, Bool.true_and]; exact congrArg some (le_cast s.size 16)
  · rw [if_neg (by omega), decide_eq_false h]; rfl
theorem rID_all (s : ByteArray) (hs : s.size ≤ 1099511627776) (h : ∀ j, j < s.size → idC j (bt s j) = true) (d : Nat) : ∀ i : Nat, i ≤ s.size → s.size - i = d →
    Ev (fun k => lunetteref11_ID.l0 k s (i : Int)) (decide (1 ≤ s.size) && decide (s.size ≤ 16)) := by
  induction d with
  | zero =>
    intro i hi hd
    obtain rfl : i = s.size := by omega
    exact Ev.step (f := fun _ => some _) (fun k => rID_end s k) (Ev.now _)
  | succ d ih =>
    intro i hi hd
    refine Ev.step (f := fun k => lunetteref11_ID.l0 k s ((i + 1 : Nat) : Int)) (fun k => ?_) (ih (i + 1) (by omega) (by omega))
    rw [rID_step s hs i (by omega) k, if_pos (h i (by omega))]
theorem rID_bad (s : ByteArray) (hs : s.size ≤ 1099511627776) (j : Nat) (hj : j < s.size) (h : idC j (bt s j) = false) (d : Nat) : ∀ i : Nat, i ≤ j → j - i = d →
    Ev (fun k => lunetteref11_ID.l0 k s (i : Int)) false := by
  induction d with
  | zero =>
    intro i hi hd
    obtain rfl : i = j := by omega
    refine Ev.step (f := fun _ => some false) (fun k => ?_) (Ev.now _)
    rw [rID_step s hs i hj k, h, if_neg (by decide)]
  | succ d ih =>
    intro i hi hd
    by_cases hc : idC i (bt s i) = true
    · refine Ev.step (f := fun k => lunetteref11_ID.l0 k s ((i + 1 : Nat) : Int)) (fun k => ?_) (ih (i + 1) (by omega) (by omega))
      rw [rID_step s hs i (by omega) k, if_pos hc]
    · refine Ev.step (f := fun _ => some false) (fun k => ?_) (Ev.now _)
      rw [rID_step s hs i (by omega) k, if_neg hc]
theorem rID_ev (s : ByteArray) (hs : s.size ≤ 1099511627776) : Ev (fun k => lunetteref11_ID.f k s) (madeB idC 16 s) := by
  by_cases h : ∀ j, j < s.size → idC j (bt s j) = true
  · rw [made_all idC 16 s h]
    exact rID_all s hs h s.size 0 (by omega) (by omega)
  · have ⟨j, hj⟩ := Classical.not_forall.mp h
    have ⟨hj1, hj2⟩ := Classical.not_imp.mp hj
    have hj3 : idC j (bt s j) = false := by simpa using hj2
    rw [made_stops idC 16 s j hj1 hj3]
    exact rID_bad s hs j hj1 hj3 j 0 (by omega) (by omega)
end Go.Proofs.YtggcipjdhhnnkaaDoor.K
