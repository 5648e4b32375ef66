/- Texts of this claim's proof, put together: QO QC QS QX QY QRa; conditions: as each states. -/
import Derived.Test.YtjcipbdocbomjaaGreatDoorZA
import Derived.Test.YtjcipbdocbomjaaGreatDoorZC
import Derived.Test.YtjcipbdocbomjaaGreatDoorZD
import Derived.Test.YtjcipbdocbomjaaGreatDoorZE
set_option linter.unusedVariables false
set_option linter.unusedSimpArgs false
namespace Go.Proofs.YtjcipbdocbomjaaGreatDoor.K
set_option linter.unusedVariables false
set_option linter.unusedSimpArgs false
open Go.RowKit Go.Proofs.YtjcipbdocbomjaaGreatDoorW.PrintWords Go.Proofs.YtjcipbdocbomjaaGreatDoorW.PrintLast Go.Proofs.YtjcipbdocbomjaaGreatDoorW.PrintMore
/-- Each one is the first of its key just if no key stands twice. -/
theorem idx_nodup {α : Type} (key : α → List UInt8) (l : List α) :
  (∀ (i : Nat) (h : i < l.length), idxP (fun y => key y == key l[i]) l = (i : Int)) ↔ (l.map key).Nodup := by
 unfold List.Nodup
 rw [List.pairwise_iff_getElem]
 constructor
 ·intro h i j hi hj hij e
  simp only [List.length_map] at hi hj
  simp only [List.getElem_map] at e
  have h1 := h j hj
  have h2 : idxP (fun y => key y == key l[j]) l ≤ (i : Int) := by
   unfold idxP
   cases hf : l.findIdx? (fun y => key y == key l[j]) with
   | none => show (-1 : Int) ≤ _; omega
   | some m =>
    rw [List.findIdx?_eq_some_iff_getElem] at hf
    obtain ⟨hm, _, h3⟩ := hf
    show (m : Int) ≤ i
    by_cases c : i < m
    ·have h4 := h3 i c
     rw [e] at h4
     simp at h4
    ·omega
  omega
 ·intro h i hi
  refine idxP_found _ l i hi (beq_self_eq_true _) fun j hj => ?_
  rw [beq_eq_false_iff_ne]
  have := h j i (by rw [List.length_map]; omega) (by rw [List.length_map]; omega) hj
  simpa using this
def nameK (k : S30) : List UInt8 := k.f0.toList
def nameR (r : S35) : List UInt8 := r.f0.toList
theorem okRs_iff (k : S30) : okRs k = true ↔ (∀ r ∈ k.f1, ruleNameP r.f0 = true) ∧ (k.f1.map nameR).Nodup := by
 rw [← idx_nodup]
 unfold okRs
 rw [List.all_eq_true]
 constructor
 ·intro h
  have h : ∀ i (hi : i < k.f1.length), ruleNameP k.f1[i].f0 = true ∧ idxP (hasP k.f1[i].f0) k.f1 = (i : Int) := by
   intro i hi
   have := h i (List.mem_range.mpr hi)
   unfold okR at this
   rw [show k.f1.getD i z35 = k.f1[i] by simp [hi], Bool.and_eq_true, beq_iff_eq] at this
   exact this
  refine ⟨fun r hr => ?_, fun i hi => (h i hi).2⟩
  obtain ⟨i, hi, rfl⟩ := List.mem_iff_getElem.1 hr
  exact (h i hi).1
 ·rintro ⟨h1, h2⟩ i hi
  have hi := List.mem_range.mp hi
  unfold okR
  rw [show k.f1.getD i z35 = k.f1[i] by simp [hi], Bool.and_eq_true, beq_iff_eq]
  exact ⟨h1 _ (List.getElem_mem hi), h2 i hi⟩
theorem okKs_all_iff (l : List S30) : okKs l = true ↔ (∀ k ∈ l, ruleNameP k.f0 = true ∧ okRs k = true) ∧ (l.map nameK).Nodup := by
 rw [← idx_nodup, okKs_iff]
 constructor
 ·intro h
  have h : ∀ i (hi : i < l.length), (ruleNameP l[i].f0 = true ∧ okRs l[i] = true) ∧ idxP (kindP l[i].f0) l = (i : Int) := by
   intro i hi
   have := h i hi
   unfold okK at this
   rw [Bool.and_eq_true, Bool.and_eq_true, beq_iff_eq] at this
   exact ⟨⟨this.1.1, this.2⟩, this.1.2⟩
  refine ⟨fun k hk => ?_, fun i hi => (h i hi).2⟩
  obtain ⟨i, hi, rfl⟩ := List.mem_iff_getElem.1 hk
  exact (h i hi).1
 ·rintro ⟨h1, h2⟩ i hi
  unfold okK
  rw [Bool.and_eq_true, Bool.and_eq_true, beq_iff_eq]
  have := h1 _ (List.getElem_mem hi)
  exact ⟨⟨this.1, h2 i hi⟩, this.2⟩
end Go.Proofs.YtjcipbdocbomjaaGreatDoor.K
namespace Go.Proofs.YtjcipbdocbomjaaGreatDoor.K
set_option linter.unusedVariables false
set_option linter.unusedSimpArgs false
open Go.RowKit Go.Proofs.YtjcipbdocbomjaaGreatDoorW.PrintWords Go.Proofs.YtjcipbdocbomjaaGreatDoorW.PrintLast Go.Proofs.YtjcipbdocbomjaaGreatDoorW.PrintMore
theorem rName_step (s : ByteArray) (hs : s.size ≤ 1099511627776) (i : Nat) (hi : i < s.size) (k : Nat) :
  lunetteref11_Name.l0 (k + 1) s (i : Int) = if nameC i (bt s i) = true then lunetteref11_Name.l0 k s ((i + 1 : Nat) : Int) else some false := by
 simp only [lunetteref11_Name.l0]
 rw [if_pos (by omega), if_pos (by omega), wrap_small (by omega) (by omega), show (i : Int) + 1 = ((i + 1 : Nat) : Int) by omega]
 generalize bt s (i : Int) = c
 unfold nameC letterB digitB
 by_cases h0 : 97 ≤ c <;> by_cases h1 : c ≤ 122 <;> by_cases h2 : 0 < i <;> by_cases h3 : 48 ≤ c <;> by_cases h4 : c ≤ 57 <;> by_cases h5 : c = 95 <;> simp [*]
theorem rName_end (s : ByteArray) (k : Nat) :
  lunetteref11_Name.l0 (k + 1) s (s.size : Int) = some (decide (1 ≤ s.size) && decide (s.size ≤ 12)) := by
 simp only [lunetteref11_Name.l0]
 rw [if_neg (by omega)]
 by_cases h : 1 ≤ s.size
 ·rw [if_pos (by omega), decide_eq_true h, Bool.true_and]; exact congrArg some (show decide ((s.size : Int) ≤ 12) = decide (s.size ≤ 12) by rw [Bool.eq_iff_iff, decide_eq_true_eq, decide_eq_true_eq]; omega)
 ·rw [if_neg (by omega), decide_eq_false h]; rfl
theorem rName_all (s : ByteArray) (hs : s.size ≤ 1099511627776) (h : ∀ j, j < s.size → nameC j (bt s j) = true) (d : Nat) : ∀ i : Nat, i ≤ s.size → s.size - i = d →
  Ev (fun k => lunetteref11_Name.l0 k s (i : Int)) (decide (1 ≤ s.size) && decide (s.size ≤ 12)) := by
 induction d with
 | zero =>
  intro i hi hd
  obtain rfl : i = s.size := by omega
  exact Ev.step (f := fun _ => some _) (fun k => rName_end s k) (Ev.now _)
 | succ d ih =>
  intro i hi hd
  refine Ev.step (f := fun k => lunetteref11_Name.l0 k s ((i + 1 : Nat) : Int)) (fun k => ?_) (ih (i + 1) (by omega) (by omega))
  rw [rName_step s hs i (by omega) k, if_pos (h i (by omega))]
theorem rName_bad (s : ByteArray) (hs : s.size ≤ 1099511627776) (j : Nat) (hj : j < s.size) (h : nameC j (bt s j) = false) (d : Nat) : ∀ i : Nat, i ≤ j → j - i = d →
  Ev (fun k => lunetteref11_Name.l0 k s (i : Int)) false := by
 induction d with
 | zero =>
  intro i hi hd
  obtain rfl : i = j := by omega
  refine Ev.step (f := fun _ => some false) (fun k => ?_) (Ev.now _)
  rw [rName_step s hs i hj k, h, if_neg (by decide)]
 | succ d ih =>
  intro i hi hd
  by_cases hc : nameC i (bt s i) = true
  ·refine Ev.step (f := fun k => lunetteref11_Name.l0 k s ((i + 1 : Nat) : Int)) (fun k => ?_) (ih (i + 1) (by omega) (by omega))
   rw [rName_step s hs i (by omega) k, if_pos hc]
  ·refine Ev.step (f := fun _ => some false) (fun k => ?_) (Ev.now _)
   rw [rName_step s hs i (by omega) k, if_neg hc]
theorem rName_ev (s : ByteArray) (hs : s.size ≤ 1099511627776) : Ev (fun k => lunetteref11_Name.f k s) (madeB nameC 12 s) := by
 by_cases h : ∀ j, j < s.size → nameC j (bt s j) = true
 ·rw [made_all nameC 12 s h]
  exact rName_all s hs h s.size 0 (by omega) (by omega)
 ·have ⟨j, hj⟩ := Classical.not_forall.mp h
  have ⟨hj1, hj2⟩ := Classical.not_imp.mp hj
  have hj3 : nameC j (bt s j) = false := by simpa using hj2
  rw [made_stops nameC 12 s j hj1 hj3]
  exact rName_bad s hs j hj1 hj3 j 0 (by omega) (by omega)
theorem refName_ev (s : ByteArray) (hs : s.size ≤ 1099511627776) : Ev (fun k => lunetteref12_Name.f k s) (ruleNameP s) := by
 unfold lunetteref12_Name.f ruleNameP
 refine (rName_ev s hs).bind ?_
 cases madeB nameC 12 s with
 | false => simp only [Bool.false_eq_true, if_false, Bool.false_and]; exact Ev.now _
 | true =>
  have e : ∀ a b : ByteArray, isP a b = (decide (b.toList = a.toList)) := by
   intro a b
   unfold isP
   rw [Bool.eq_iff_iff, beq_iff_eq, decide_eq_true_eq]
   exact eq_comm
  have hb : ∀ (l : List UInt8), ((s.toList : List UInt8) != l) = !(decide (s.toList = l)) := by
   intro l
   rw [Bool.eq_iff_iff, bne_iff_ne, Bool.not_eq_true', decide_eq_false_iff_not]
  simp only [if_true, Bool.true_and]
  rw [hb]
  have w : theWords.any (isP s) = (decide (s.toList = [116, 104, 105, 115]) || (decide (s.toList = [111, 114]) || (decide (s.toList = [97, 110, 100]) || (decide (s.toList = [98, 117, 116]) || (decide (s.toList = [102, 114, 111, 109]) || decide (s.toList = [107, 105, 110, 100])))))) := by
   have f : ∀ l : List UInt8, isP s ⟨l.toArray⟩ = decide (s.toList = l) := by
    intro l
    unfold isP
    rw [tl_data ⟨l.toArray⟩, Bool.eq_iff_iff, beq_iff_eq, decide_eq_true_eq]
   unfold theWords
   simp only [List.any_cons, List.any_nil, Bool.or_false]
   rw [show (⟨#[116, 104, 105, 115]⟩ : ByteArray) = ⟨[116, 104, 105, 115].toArray⟩ from rfl, f, show (⟨#[111, 114]⟩ : ByteArray) = ⟨[111, 114].toArray⟩ from rfl, f, show (⟨#[97, 110, 100]⟩ : ByteArray) = ⟨[97, 110, 100].toArray⟩ from rfl, f,
    show (⟨#[98, 117, 116]⟩ : ByteArray) = ⟨[98, 117, 116].toArray⟩ from rfl, f, show (⟨#[102, 114, 111, 109]⟩ : ByteArray) = ⟨[102, 114, 111, 109].toArray⟩ from rfl, f, show (⟨#[107, 105, 110, 100]⟩ : ByteArray) = ⟨[107, 105, 110, 100].toArray⟩ from rfl, f]
  rw [w]
  by_cases h1 : s.toList = [116, 104, 105, 115]
  ·simp only [h1, if_true, decide_true, Bool.true_or, Bool.not_true]; exact Ev.now _
  by_cases h2 : s.toList = [111, 114]
  ·simp only [h1, h2, if_true, if_false, decide_true, decide_false, Bool.true_or, Bool.or_true, Bool.not_true]; exact Ev.now _
  by_cases h3 : s.toList = [97, 110, 100]
  ·simp only [h1, h2, h3, if_true, if_false, decide_true, decide_false, Bool.true_or, Bool.or_true, Bool.not_true]; exact Ev.now _
  by_cases h4 : s.toList = [98, 117, 116]
  ·simp only [h1, h2, h3, h4, if_true, if_false, decide_true, decide_false, Bool.true_or, Bool.or_true, Bool.not_true]; exact Ev.now _
  by_cases h5 : s.toList = [102, 114, 111, 109]
  ·simp only [h1, h2, h3, h4, h5, if_true, if_false, decide_true, decide_false, Bool.true_or, Bool.or_true, Bool.not_true]; exact Ev.now _
  simp only [h1, h2, h3, h4, h5, if_false, decide_false, Bool.false_or]
  exact Ev.now _
theorem refHas_l0 (n rel : ByteArray) (rs : List S35) (hl : rs.length ≤ 1099511627776) (m : Nat) :
  ∀ (i : Nat), i + m = rs.length → Ev (fun k => lunetteref12_has.l0 k rel (i : Int) n rs) ((rs.drop i).any (hasP rel)) := by
 induction m with
 | zero =>
  intro i h
  rw [List.drop_eq_nil_of_le (by omega)]
  refine Ev.step (f := fun _ => some false) (fun k => ?_) (Ev.now _)
  simp only [lunetteref12_has.l0]
  rw [if_neg (by omega)]
 | succ m ih =>
  intro i h
  have hi : i < rs.length := by omega
  rw [List.drop_eq_getElem_cons hi, List.any_cons]
  by_cases e : rs[i].f0.toList = rel.toList
  ·rw [show hasP rel rs[i] = true by unfold hasP; rw [e]; exact beq_self_eq_true _, Bool.true_or]
   refine Ev.step (f := fun _ => some true) (fun k => ?_) (Ev.now _)
   simp only [lunetteref12_has.l0]
   rw [if_pos (by omega), if_pos (by omega), rd35 hi, if_pos e]
  ·rw [show hasP rel rs[i] = false by unfold hasP; rw [beq_eq_false_iff_ne]; exact e, Bool.false_or]
   refine Ev.step (fun k => ?_) (ih (i + 1) (by omega))
   simp only [lunetteref12_has.l0]
   rw [if_pos (by omega), if_pos (by omega), rd35 hi, if_neg e, wrap_succ hi hl]
theorem refHas_ev (n rel : ByteArray) (rs : List S35) (hl : rs.length ≤ 1099511627776) : Ev (fun k => lunetteref12_has.f k n rs rel) (rs.any (hasP rel)) :=
 refHas_l0 n rel rs hl rs.length 0 (Nat.zero_add _)
/-- No name in an expression is too long for a count. -/
def sizedE (x : S33) : Bool := allP (fun y => decide (y.f1.size ≤ 1099511627776)) x
theorem sizedE_now {x : S33} (h : sizedE x = true) : x.f1.size ≤ 1099511627776 := by
 unfold sizedE at h; rw [allP_eq, Bool.and_eq_true, decide_eq_true_eq] at h; exact h.1
theorem sizedE_mem {x y : S33} (h : sizedE x = true) (hy : y ∈ x.f3) : sizedE y = true := by
 unfold sizedE at h ⊢; rw [allP_eq, Bool.and_eq_true, List.all_eq_true] at h; exact h.2 y hy
theorem named_l0 (n : ByteArray) (rs : List S35) (H : S33 → Bool) (a b c : ByteArray) (l : List S33) (hl : l.length ≤ 1099511627776) (IH : ∀ y ∈ l, Ev (fun k => lunetteref12_named.f k n rs y.f0 y.f1 y.f2 y.f3) (H y)) (m : Nat) :
  ∀ (i : Nat) (R : Bool), i + m = l.length → Ev (fun k => lunetteref12_named.l0 k R (i : Int) n rs a b c l) (R && (l.drop i).all H) := by
 induction m with
 | zero =>
  intro i R h
  rw [List.drop_eq_nil_of_le (by omega), List.all_nil, Bool.and_true]
  refine Ev.step (f := fun _ => some R) (fun k => ?_) (Ev.now _)
  simp only [lunetteref12_named.l0]
  rw [if_neg (by omega)]
 | succ m ih =>
  intro i R h
  have hi : i < l.length := by omega
  rw [List.drop_eq_getElem_cons hi, List.all_cons]
  cases R with
  | false =>
   rw [Bool.false_and]
   have := ih (i + 1) false (by omega)
   rw [Bool.false_and] at this
   refine Ev.step (fun k => ?_) this
   simp only [lunetteref12_named.l0]
   rw [if_pos (by omega), if_neg (by decide), wrap_succ hi hl]
  | true =>
   rw [Bool.true_and]
   refine Ev.step (f := fun k => (lunetteref12_named.f k n rs l[i].f0 l[i].f1 l[i].f2 l[i].f3).bind fun t => lunetteref12_named.l0 k t ((i + 1 : Nat) : Int) n rs a b c l) (fun k => ?_) ((IH _ (List.getElem_mem hi)).bind (ih (i + 1) _ (by omega)))
   simp only [lunetteref12_named.l0]
   rw [if_pos (by omega), if_pos trivial, if_pos (by omega), rd33 hi, wrap_succ hi hl]
theorem refNamed_ev (n : ByteArray) (rs : List S35) (hl : rs.length ≤ 1099511627776) (x : S33) : smallE x = true → sizedE x = true → Ev (fun k => lunetteref12_named.f k n rs x.f0 x.f1 x.f2 x.f3) (allP (namedP ⟨n, rs⟩) x) := by
 induction x using S33.ind with
 | h x ih =>
  intro hs hz
  rw [allP_eq]
  have tail : ∀ R : Bool, Ev (fun k => lunetteref12_named.j1 k R n rs x.f0 x.f1 x.f2 x.f3) (R && x.f3.all (allP (namedP ⟨n, rs⟩))) := fun R =>
   Ev.step (f := fun k => lunetteref12_named.l0 k R ((0 : Nat) : Int) n rs x.f0 x.f1 x.f2 x.f3) (fun k => by simp only [lunetteref12_named.j1]; rfl)
    (named_l0 n rs (allP (namedP ⟨n, rs⟩)) _ _ _ x.f3 (smallE_len hs) (fun y hy => ih y hy (smallE_mem hs hy) (sizedE_mem hz hy)) x.f3.length 0 R (Nat.zero_add _))
  by_cases h1 : x.f0.toList = ([114, 101, 108] : List UInt8)
  ·have hn : namedP ⟨n, rs⟩ x = rs.any (hasP x.f1) := by unfold namedP; rw [if_pos (by rw [h1]; rfl)]
   rw [hn]
   refine Ev.step (f := fun k => (lunetteref12_has.f k n rs x.f1).bind fun t => lunetteref12_named.j0 k t n rs x.f0 x.f1 x.f2 x.f3) (fun k => by simp only [lunetteref12_named.f]; rw [if_pos h1]) ?_
   refine (refHas_ev n x.f1 rs hl).bind ?_
   refine Ev.step (fun k => ?_) (tail (rs.any (hasP x.f1)))
   simp only [lunetteref12_named.j0]
   rw [if_neg (by rw [h1]; decide)]
  ·refine Ev.step (f := fun k => lunetteref12_named.j0 k true n rs x.f0 x.f1 x.f2 x.f3) (fun k => by simp only [lunetteref12_named.f]; rw [if_neg h1]) ?_
   by_cases h2 : x.f0.toList = ([102, 114, 111, 109] : List UInt8)
   ·have hn : namedP ⟨n, rs⟩ x = (rs.any (hasP x.f2) && ruleNameP x.f1) := by unfold namedP; rw [if_neg (by rw [h2]; decide), if_pos (by rw [h2]; rfl)]
    rw [hn]
    refine Ev.step (f := fun k => (lunetteref12_has.f k n rs x.f2).bind fun t => if t = true then ((lunetteref12_Name.f k x.f1).bind fun t1 => lunetteref12_named.j1 k t1 n rs x.f0 x.f1 x.f2 x.f3) else lunetteref12_named.j1 k false n rs x.f0 x.f1 x.f2 x.f3) (fun k => by simp only [lunetteref12_named.j0]; rw [if_pos h2]) ?_
    refine (refHas_ev n x.f2 rs hl).bind ?_
    cases rs.any (hasP x.f2) with
    | false => simp only [Bool.false_eq_true, if_false, Bool.false_and]; have := tail false; rw [Bool.false_and] at this; exact this
    | true => simp only [if_true, Bool.true_and]; exact (refName_ev x.f1 (sizedE_now hz)).bind (tail _)
   ·have hn : namedP ⟨n, rs⟩ x = true := by
     unfold namedP
     rw [if_neg (by rw [beq_iff_eq]; exact h1), if_neg (by rw [beq_iff_eq]; exact h2)]
    rw [hn]
    refine Ev.step (fun k => ?_) (tail true)
    simp only [lunetteref12_named.j0]
    rw [if_neg h2]
theorem refOk_eq (x : S33) : refOk x.f0 x.f1 x.f2 x.f3.length = formP x := by
 unfold refOk formP
 simp only [int_eq0, int_eq2]
 have g2 : decide ((x.f3.length : Int) > 1) = decide (2 ≤ x.f3.length) := by rw [Bool.eq_iff_iff]; simp; omega
 rw [g2]
 by_cases h1 : x.f0.toList = ([116, 104, 105, 115] : List UInt8)
 ·simp only [h1]; by_cases a : x.f1.toList = ([] : List UInt8) <;> by_cases b : x.f2.toList = ([] : List UInt8) <;> simp [a, b]
 by_cases h2 : x.f0.toList = ([114, 101, 108] : List UInt8)
 ·simp only [h2]; by_cases b : x.f2.toList = ([] : List UInt8) <;> simp [b]
 by_cases h3 : x.f0.toList = ([102, 114, 111, 109] : List UInt8)
 ·simp only [h3]; simp
 by_cases h4 : x.f0.toList = ([111, 114] : List UInt8)
 ·simp only [h4]; by_cases a : x.f1.toList = ([] : List UInt8) <;> by_cases b : x.f2.toList = ([] : List UInt8) <;> simp [a, b]
 by_cases h5 : x.f0.toList = ([97, 110, 100] : List UInt8)
 ·simp only [h5]; by_cases a : x.f1.toList = ([] : List UInt8) <;> by_cases b : x.f2.toList = ([] : List UInt8) <;> simp [a, b]
 by_cases h6 : x.f0.toList = ([98, 117, 116] : List UInt8)
 ·simp only [h6]; by_cases a : x.f1.toList = ([] : List UInt8) <;> by_cases b : x.f2.toList = ([] : List UInt8) <;> simp [a, b]
 simp [h1, h2, h3, h4, h5, h6]
theorem rform_l0 (H : S33 → Bool) (a b c : ByteArray) (l : List S33) (hl : l.length ≤ 1099511627776) (IH : ∀ y ∈ l, Ev (fun k => lunetteref12_form.f k y.f0 y.f1 y.f2 y.f3) (H y)) (m : Nat) :
  ∀ (i : Nat) (R : Bool), i + m = l.length → Ev (fun k => lunetteref12_form.l0 k R (i : Int) a b c l) (R && (l.drop i).all H) := by
 induction m with
 | zero =>
  intro i R h
  rw [List.drop_eq_nil_of_le (by omega), List.all_nil, Bool.and_true]
  refine Ev.step (f := fun _ => some R) (fun k => ?_) (Ev.now _)
  simp only [lunetteref12_form.l0]
  rw [if_neg (by omega)]
 | succ m ih =>
  intro i R h
  have hi : i < l.length := by omega
  rw [List.drop_eq_getElem_cons hi, List.all_cons]
  cases R with
  | false =>
   rw [Bool.false_and]
   have := ih (i + 1) false (by omega)
   rw [Bool.false_and] at this
   refine Ev.step (fun k => ?_) this
   simp only [lunetteref12_form.l0]
   rw [if_pos (by omega), if_neg (by decide), wrap_succ hi hl]
  | true =>
   rw [Bool.true_and]
   refine Ev.step (f := fun k => (lunetteref12_form.f k l[i].f0 l[i].f1 l[i].f2 l[i].f3).bind fun t => lunetteref12_form.l0 k t ((i + 1 : Nat) : Int) a b c l) (fun k => ?_) ((IH _ (List.getElem_mem hi)).bind (ih (i + 1) _ (by omega)))
   simp only [lunetteref12_form.l0]
   rw [if_pos (by omega), if_pos trivial, if_pos (by omega), rd33 hi, wrap_succ hi hl]
theorem refForm_ev (x : S33) : smallE x = true → Ev (fun k => lunetteref12_form.f k x.f0 x.f1 x.f2 x.f3) (allP formP x) := by
 induction x using S33.ind with
 | h x ih =>
  intro hs
  rw [allP_eq, ← refOk_eq]
  exact Ev.step (f := fun k => lunetteref12_form.l0 k (refOk x.f0 x.f1 x.f2 x.f3.length) ((0 : Nat) : Int) x.f0 x.f1 x.f2 x.f3) (fun k => by simp only [lunetteref12_form.f]; rfl)
   (rform_l0 (allP formP) _ _ _ x.f3 (smallE_len hs) (fun y hy => ih y hy (smallE_mem hs hy)) x.f3.length 0 _ (Nat.zero_add _))
/-! The three answers. -/
def resC (d f r : Bool) : Int := if d = true then 122 else if f = true then (if r = true then 0 else 121) else 120
def neR (r x : S35) : Bool := x.f0.toList != r.f0.toList
def neK (k x : S30) : Bool := x.f0.toList != k.f0.toList
def rightRs (k : S30) : List S35 → List S35 → Bool
 | _, [] => true
 | pre, r :: rs => (ruleNameP r.f0 && allP (namedP k) r.f1 && pre.all (neR r)) && rightRs k (pre ++ [r]) rs
def rightL : List S30 → List S30 → Bool
 | _, [] => true
 | pre, k :: l => (ruleNameP k.f0 && pre.all (neK k) && rightRs k [] k.f1) && rightL (pre ++ [k]) l
def greatR (r : S35) : Bool := !(notGreat r)
def greatK (k : S30) : Bool := decide ((k.f1.length : Int) > 64) || k.f1.any greatR
def formR (r : S35) : Bool := allP formP r.f1
theorem take_drop_cons {α : Type} {l : List α} {i j : Nat} (hj : j < i) (hi : i ≤ l.length) : (l.take i).drop j = (l[j]'(by omega)) :: (l.take i).drop (j + 1) := by
 rw [List.drop_eq_getElem_cons (by rw [List.length_take]; omega), List.getElem_take]
theorem chk_l1 (l : List S30) (K : S30) (D F : Bool) (i : Nat) (hi : i ≤ l.length) (hl : l.length ≤ 1099511627776) (b : Int) (m : Nat) :
  ∀ (j : Nat) (R : Bool), j + m = i → Ev (fun k => lunetteref12_Check.l2 k l D F (R && ((l.take i).drop j).all (neK K)) (i : Int) ((0 : Nat) : Int) K.f0 K.f1) b →
   Ev (fun k => lunetteref12_Check.l1 k l D F R (i : Int) (j : Int) K.f0 K.f1) b := by
 induction m with
 | zero =>
  intro j R h hN
  rw [List.drop_eq_nil_of_le (by rw [List.length_take]; omega), List.all_nil, Bool.and_true] at hN
  refine Ev.step (fun k => ?_) hN
  simp only [lunetteref12_Check.l1]
  rw [if_neg (by omega)]
  rfl
 | succ m ih =>
  intro j R h hN
  have hj : j < i := by omega
  rw [take_drop_cons hj hi, List.all_cons] at hN
  cases R with
  | false =>
   have := ih (j + 1) false (by omega)
   rw [Bool.false_and] at this hN
   refine Ev.step (fun k => ?_) (this hN)
   simp only [lunetteref12_Check.l1]
   rw [if_pos (by omega), if_neg (by decide), wrap_succ (n := i) hj (by omega)]
  | true =>
   rw [Bool.true_and] at hN
   refine Ev.step (fun k => ?_) (ih (j + 1) (neK K l[j]) (by omega) hN)
   simp only [lunetteref12_Check.l1]
   rw [if_pos (by omega), if_pos trivial, if_pos (by omega), if_pos (by omega), rd30 (by omega), wrap_succ (n := i) hj (by omega)]
   rfl
theorem chk_l3 (l : List S30) (K : S30) (r : S35) (D F : Bool) (i j : Nat) (hj : j < K.f1.length) (hl : K.f1.length ≤ 1099511627776) (b : Int) (m : Nat) :
  ∀ (n : Nat) (R : Bool), n + m = j → Ev (fun k => lunetteref12_Check.l2 k l D F (R && ((K.f1.take j).drop n).all (neR r)) (i : Int) ((j + 1 : Nat) : Int) K.f0 K.f1) b →
   Ev (fun k => lunetteref12_Check.l3 k l D F R (i : Int) (j : Int) (n : Int) K.f0 K.f1 r.f0 r.f1.f0 r.f1.f1 r.f1.f2 r.f1.f3) b := by
 induction m with
 | zero =>
  intro n R h hN
  rw [List.drop_eq_nil_of_le (by rw [List.length_take]; omega), List.all_nil, Bool.and_true] at hN
  refine Ev.step (fun k => ?_) hN
  simp only [lunetteref12_Check.l3]
  rw [if_neg (by omega), wrap_succ hj hl]
 | succ m ih =>
  intro n R h hN
  have hn : n < j := by omega
  rw [take_drop_cons hn (Nat.le_of_lt hj), List.all_cons] at hN
  cases R with
  | false =>
   have := ih (n + 1) false (by omega)
   rw [Bool.false_and] at this hN
   refine Ev.step (fun k => ?_) (this hN)
   simp only [lunetteref12_Check.l3]
   rw [if_pos (by omega), if_neg (by decide), wrap_succ (n := j) hn (by omega)]
  | true =>
   rw [Bool.true_and] at hN
   refine Ev.step (fun k => ?_) (ih (n + 1) (neR r K.f1[n]) (by omega) hN)
   simp only [lunetteref12_Check.l3]
   rw [if_pos (by omega), if_pos trivial, if_pos (by omega), if_pos (by omega), rd35 (by omega), wrap_succ (n := j) hn (by omega)]
   rfl
/-- Small enough for counts: a list of kinds and all that is in it. -/
def okR_ (r : S35) : Prop := smallE r.f1 = true ∧ sizedE r.f1 = true ∧ r.f0.size ≤ 1099511627776
theorem chk_l2 (l : List S30) (K : S30) (i : Nat) (hi : i < l.length) (hll : l.length ≤ 1099511627776) (hl : K.f1.length ≤ 1099511627776) (ok : ∀ r ∈ K.f1, okR_ r) (b : Int) (m : Nat) :
  ∀ (j : Nat) (D F R : Bool), j + m = K.f1.length → Ev (fun k => lunetteref12_Check.l0 k l (D || (K.f1.drop j).any greatR) (F && (K.f1.drop j).all formR) (R && rightRs K (K.f1.take j) (K.f1.drop j)) ((i + 1 : Nat) : Int)) b →
   Ev (fun k => lunetteref12_Check.l2 k l D F R (i : Int) (j : Int) K.f0 K.f1) b := by
 induction m with
 | zero =>
  intro j D F R h hN
  rw [List.drop_eq_nil_of_le (by omega)] at hN
  simp only [List.any_nil, List.all_nil, rightRs, Bool.or_false, Bool.and_true] at hN
  refine Ev.step (fun k => ?_) hN
  simp only [lunetteref12_Check.l2]
  rw [if_neg (by omega), wrap_succ hi hll]
 | succ m ih =>
  intro j D F R h hN
  have hj : j < K.f1.length := by omega
  obtain ⟨o1, o2, o3⟩ := ok _ (List.getElem_mem hj)
  rw [List.drop_eq_getElem_cons hj] at hN
  simp only [List.any_cons, List.all_cons, rightRs] at hN
  rw [← Bool.or_assoc, ← Bool.and_assoc, ← Bool.and_assoc, show K.f1.take j ++ [K.f1[j]] = K.f1.take (j + 1) from (List.take_succ_eq_append_getElem hj).symm] at hN
  have hN := ih (j + 1) _ _ _ (by omega) hN
  have RDJ := rd35 hj
  obtain ⟨r, hr⟩ : ∃ r, r = K.f1[j] := ⟨_, rfl⟩
  rw [← hr] at hN o1 o2 o3 RDJ
  have s7 : ∀ D F R : Bool, Ev (fun k => lunetteref12_Check.l2 k l D F (R && (K.f1.take j).all (neR r)) (i : Int) ((j + 1 : Nat) : Int) K.f0 K.f1) b →
    Ev (fun k => lunetteref12_Check.j7 k l D F R (i : Int) (j : Int) K.f0 K.f1 r.f0 r.f1.f0 r.f1.f1 r.f1.f2 r.f1.f3) b := fun D F R hN =>
   Ev.step (fun k => by simp only [lunetteref12_Check.j7]; rfl) (chk_l3 l K r D F i j hj hl b j 0 R (Nat.zero_add _) (by rw [List.drop_zero]; exact hN))
  have s6 : ∀ D F R : Bool, Ev (fun k => lunetteref12_Check.l2 k l D F (R && (ruleNameP r.f0 && allP (namedP K) r.f1 && (K.f1.take j).all (neR r))) (i : Int) ((j + 1 : Nat) : Int) K.f0 K.f1) b →
    Ev (fun k => lunetteref12_Check.j6 k l D F R (i : Int) (j : Int) K.f0 K.f1 r.f0 r.f1.f0 r.f1.f1 r.f1.f2 r.f1.f3) b := by
   intro D F R hN
   cases R with
   | false =>
    rw [Bool.false_and] at hN
    refine Ev.step (fun k => ?_) (s7 D F false (by rw [Bool.false_and]; exact hN))
    simp only [lunetteref12_Check.j6, Bool.false_eq_true, if_false]
   | true =>
    rw [Bool.true_and] at hN
    refine Ev.step (f := fun k => (lunetteref12_Name.f k r.f0).bind fun t164 => (if t164 = true then ((lunetteref12_named.f k K.f0 K.f1 r.f1.f0 r.f1.f1 r.f1.f2 r.f1.f3).bind fun t165 => (lunetteref12_Check.j7 k l D F t165 (i : Int) (j : Int) K.f0 K.f1 r.f0 r.f1.f0 r.f1.f1 r.f1.f2 r.f1.f3)) else (lunetteref12_Check.j7 k l D F false (i : Int) (j : Int) K.f0 K.f1 r.f0 r.f1.f0 r.f1.f1 r.f1.f2 r.f1.f3))) (fun k => by simp only [lunetteref12_Check.j6, if_true]) ?_
    refine (refName_ev r.f0 o3).bind ?_
    cases hn : ruleNameP r.f0 with
    | false =>
     rw [hn] at hN
     simp only [Bool.false_and] at hN
     simp only [Bool.false_eq_true, if_false]
     exact s7 D F false (by rw [Bool.false_and]; exact hN)
    | true =>
     rw [hn] at hN
     simp only [Bool.true_and] at hN
     simp only [if_true]
     exact (refNamed_ev K.f0 K.f1 hl r.f1 o1 o2).bind (s7 D F _ hN)
  have s5 : ∀ D F R : Bool, Ev (fun k => lunetteref12_Check.l2 k l D (F && formR r) (R && (ruleNameP r.f0 && allP (namedP K) r.f1 && (K.f1.take j).all (neR r))) (i : Int) ((j + 1 : Nat) : Int) K.f0 K.f1) b →
    Ev (fun k => lunetteref12_Check.j5 k l D F R (i : Int) (j : Int) K.f0 K.f1 r.f0 r.f1.f0 r.f1.f1 r.f1.f2 r.f1.f3) b := by
   intro D F R hN
   cases F with
   | false =>
    rw [Bool.false_and] at hN
    refine Ev.step (fun k => ?_) (s6 D false R hN)
    simp only [lunetteref12_Check.j5, Bool.false_eq_true, if_false]
   | true =>
    rw [Bool.true_and] at hN
    refine Ev.step (f := fun k => (lunetteref12_form.f k r.f1.f0 r.f1.f1 r.f1.f2 r.f1.f3).bind fun t163 => (lunetteref12_Check.j6 k l D t163 R (i : Int) (j : Int) K.f0 K.f1 r.f0 r.f1.f0 r.f1.f1 r.f1.f2 r.f1.f3)) (fun k => by simp only [lunetteref12_Check.j5, if_true]) ?_
    exact (refForm_ev r.f1 o1).bind (s6 D _ R hN)
  cases D with
  | true =>
   rw [Bool.true_or] at hN
   refine Ev.step (fun k => ?_) (s5 true F R hN)
   simp only [lunetteref12_Check.l2]
   rw [if_pos (by omega), if_pos (by omega), if_pos trivial, RDJ]
  | false =>
   rw [Bool.false_or] at hN
   refine Ev.step (f := fun k => (lunetteref12_Size.f k r.f1.f0 r.f1.f1 r.f1.f2 r.f1.f3).bind fun t161 => (if t161 > 64 then (lunetteref12_Check.j5 k l true F R (i : Int) (j : Int) K.f0 K.f1 r.f0 r.f1.f0 r.f1.f1 r.f1.f2 r.f1.f3) else ((lunetteref12_Deep.f k r.f1.f0 r.f1.f1 r.f1.f2 r.f1.f3).bind fun t162 => (lunetteref12_Check.j5 k l (decide (t162 > 8)) F R (i : Int) (j : Int) K.f0 K.f1 r.f0 r.f1.f0 r.f1.f1 r.f1.f2 r.f1.f3)))) (fun k => ?_) ?_
   ·simp only [lunetteref12_Check.l2]
    rw [if_pos (by omega), if_pos (by omega), if_neg (by decide), RDJ]
   ·refine (refSize_ev r.f1 o1).bind ?_
    by_cases c : sizeW r.f1 > 64
    ·refine Ev.congr (fun k => if_pos c) (s5 true F R ?_)
     rw [show greatR r = true by unfold greatR notGreat; rw [decide_eq_false (by omega)]; rfl] at hN
     exact hN
    ·refine Ev.congr (fun k => if_neg c) ?_
     refine (refDeep_ev r.f1 o1).bind (s5 _ F R ?_)
     rw [show greatR r = decide (deepW r.f1 > 8) by
      unfold greatR notGreat
      rw [decide_eq_true (show sizeW r.f1 ≤ 64 by omega), Bool.true_and, Bool.eq_iff_iff, Bool.not_eq_true', decide_eq_false_iff_not, decide_eq_true_eq]
      omega] at hN
     exact hN
def okK_ (k : S30) : Prop := k.f0.size ≤ 1099511627776 ∧ k.f1.length ≤ 1099511627776 ∧ ∀ r ∈ k.f1, okR_ r
theorem chk_l0 (l : List S30) (hl : l.length ≤ 1099511627776) (ok : ∀ k ∈ l, okK_ k) (m : Nat) :
  ∀ (i : Nat) (D F R : Bool), i + m = l.length → Ev (fun k => lunetteref12_Check.l0 k l D F R (i : Int)) (resC (D || (l.drop i).any greatK) (F && (l.drop i).all fun k => k.f1.all formR) (R && rightL (l.take i) (l.drop i))) := by
 induction m with
 | zero =>
  intro i D F R h
  rw [List.drop_eq_nil_of_le (by omega)]
  simp only [List.any_nil, List.all_nil, rightL, Bool.or_false, Bool.and_true]
  refine Ev.step (f := fun _ => some (resC D F R)) (fun k => ?_) (Ev.now _)
  simp only [lunetteref12_Check.l0]
  rw [if_neg (by omega)]
  unfold resC
  cases D <;> cases F <;> cases R <;> rfl
 | succ m ih =>
  intro i D F R h
  have hi : i < l.length := by omega
  obtain ⟨o1, o2, o3⟩ := ok _ (List.getElem_mem hi)
  rw [List.drop_eq_getElem_cons hi]
  simp only [List.any_cons, List.all_cons, rightL]
  rw [← Bool.or_assoc, ← Bool.and_assoc, ← Bool.and_assoc, show l.take i ++ [l[i]] = l.take (i + 1) from (List.take_succ_eq_append_getElem hi).symm]
  have hN := ih (i + 1) (D || greatK l[i]) (F && l[i].f1.all formR) (R && (ruleNameP l[i].f0 && (l.take i).all (neK l[i]) && rightRs l[i] [] l[i].f1)) (by omega)
  have RDI := rd30 hi
  obtain ⟨K, hK⟩ : ∃ K, K = l[i] := ⟨_, rfl⟩
  rw [← hK] at hN o1 o2 o3 RDI ⊢
  generalize resC _ _ _ = b at *
  have s2 : ∀ D R : Bool, Ev (fun k => lunetteref12_Check.l0 k l (D || K.f1.any greatR) (F && K.f1.all formR) (R && ((l.take i).all (neK K) && rightRs K [] K.f1)) ((i + 1 : Nat) : Int)) b →
    Ev (fun k => lunetteref12_Check.j2 k l D F R (i : Int) K.f0 K.f1) b := by
   intro D R hN
   refine Ev.step (f := fun k => lunetteref12_Check.l1 k l D F R (i : Int) ((0 : Nat) : Int) K.f0 K.f1) (fun k => by simp only [lunetteref12_Check.j2]; rfl) ?_
   refine chk_l1 l K D F i (Nat.le_of_lt hi) hl b i 0 R (Nat.zero_add _) ?_
   rw [List.drop_zero]
   refine chk_l2 l K i hi hl o2 o3 b K.f1.length 0 D F _ (Nat.zero_add _) ?_
   rw [List.drop_zero, List.take_zero, Bool.and_assoc]
   exact hN
  have s1 : ∀ D : Bool, Ev (fun k => lunetteref12_Check.l0 k l (D || K.f1.any greatR) (F && K.f1.all formR) (R && (ruleNameP K.f0 && (l.take i).all (neK K) && rightRs K [] K.f1)) ((i + 1 : Nat) : Int)) b →
    Ev (fun k => lunetteref12_Check.j1 k l D F R (i : Int) K.f0 K.f1) b := by
   intro D hN
   cases R with
   | false =>
    rw [Bool.false_and] at hN
    refine Ev.step (fun k => ?_) (s2 D false (by rw [Bool.false_and]; exact hN))
    simp only [lunetteref12_Check.j1, Bool.false_eq_true, if_false]
   | true =>
    rw [Bool.true_and, Bool.and_assoc] at hN
    refine Ev.step (f := fun k => (lunetteref12_Name.f k K.f0).bind fun t => lunetteref12_Check.j2 k l D F t (i : Int) K.f0 K.f1) (fun k => by simp only [lunetteref12_Check.j1, if_true]) ?_
    exact (refName_ev K.f0 o1).bind (s2 D _ hN)
  cases D with
  | true =>
   rw [Bool.true_or] at hN
   refine Ev.step (fun k => ?_) (s1 true (by rw [Bool.true_or]; exact hN))
   simp only [lunetteref12_Check.l0]
   rw [if_pos (by omega), if_pos (by omega), if_pos trivial, RDI]
  | false =>
   rw [Bool.false_or] at hN
   refine Ev.step (fun k => ?_) (s1 (decide ((K.f1.length : Int) > 64)) hN)
   simp only [lunetteref12_Check.l0]
   rw [if_pos (by omega), if_pos (by omega), if_neg (by decide), RDI]
theorem rightRs_iff (k : S30) (rs : List S35) : ∀ pre, rightRs k pre rs = true ↔ (∀ r ∈ rs, ruleNameP r.f0 = true ∧ allP (namedP k) r.f1 = true) ∧ (∀ r ∈ rs, ∀ x ∈ pre, nameR x ≠ nameR r) ∧ (rs.map nameR).Nodup := by
 induction rs with
 | nil => intro pre; simp [rightRs]
 | cons r rs ih =>
  intro pre
  have hn : pre.all (neR r) = true ↔ ∀ x ∈ pre, nameR x ≠ nameR r := by
   rw [List.all_eq_true]
   exact ⟨fun h x hx => by have := h x hx; unfold neR at this; rw [bne_iff_ne] at this; exact this, fun h x hx => by unfold neR; rw [bne_iff_ne]; exact h x hx⟩
  rw [rightRs, Bool.and_eq_true, Bool.and_eq_true, Bool.and_eq_true, ih, hn, List.map_cons, List.nodup_cons]
  constructor
  ·rintro ⟨⟨h1, h2⟩, h3, h4, h5⟩
   refine ⟨fun x hx => ?_, fun x hx y hy => ?_, fun hm => ?_, h5⟩
   ·rcases List.mem_cons.1 hx with rfl | hx
    ·exact h1
    ·exact h3 x hx
   ·rcases List.mem_cons.1 hx with rfl | hx
    ·exact h2 y hy
    ·exact h4 x hx y (List.mem_append_left _ hy)
   ·obtain ⟨x, hx, e⟩ := List.mem_map.1 hm
    exact h4 x hx r (List.mem_append_right _ (List.mem_singleton.2 rfl)) e.symm
  ·rintro ⟨h1, h2, h3, h4⟩
   refine ⟨⟨h1 r List.mem_cons_self, h2 r List.mem_cons_self⟩, fun x hx => h1 x (List.mem_cons_of_mem _ hx), fun x hx y hy => ?_, h4⟩
   rcases List.mem_append.1 hy with hy | hy
   ·exact h2 x (List.mem_cons_of_mem _ hx) y hy
   ·rw [List.mem_singleton.1 hy]
    exact fun e => h3 (List.mem_map.2 ⟨x, hx, e.symm⟩)
theorem rightL_iff (l : List S30) : ∀ pre, rightL pre l = true ↔ (∀ k ∈ l, ruleNameP k.f0 = true ∧ rightRs k [] k.f1 = true) ∧ (∀ k ∈ l, ∀ x ∈ pre, nameK x ≠ nameK k) ∧ (l.map nameK).Nodup := by
 induction l with
 | nil => intro pre; simp [rightL]
 | cons r rs ih =>
  intro pre
  have hn : pre.all (neK r) = true ↔ ∀ x ∈ pre, nameK x ≠ nameK r := by
   rw [List.all_eq_true]
   exact ⟨fun h x hx => by have := h x hx; unfold neK at this; rw [bne_iff_ne] at this; exact this, fun h x hx => by unfold neK; rw [bne_iff_ne]; exact h x hx⟩
  rw [rightL, Bool.and_eq_true, Bool.and_eq_true, Bool.and_eq_true, ih, hn, List.map_cons, List.nodup_cons]
  constructor
  ·rintro ⟨⟨⟨h1, h2⟩, h6⟩, h3, h4, h5⟩
   refine ⟨fun x hx => ?_, fun x hx y hy => ?_, fun hm => ?_, h5⟩
   ·rcases List.mem_cons.1 hx with rfl | hx
    ·exact ⟨h1, h6⟩
    ·exact h3 x hx
   ·rcases List.mem_cons.1 hx with rfl | hx
    ·exact h2 y hy
    ·exact h4 x hx y (List.mem_append_left _ hy)
   ·obtain ⟨x, hx, e⟩ := List.mem_map.1 hm
    exact h4 x hx r (List.mem_append_right _ (List.mem_singleton.2 rfl)) e.symm
  ·rintro ⟨h1, h2, h3, h4⟩
   refine ⟨⟨⟨(h1 r List.mem_cons_self).1, h2 r List.mem_cons_self⟩, (h1 r List.mem_cons_self).2⟩, fun x hx => h1 x (List.mem_cons_of_mem _ hx), fun x hx y hy => ?_, h4⟩
   rcases List.mem_append.1 hy with hy | hy
   ·exact h2 x (List.mem_cons_of_mem _ hx) y hy
   ·rw [List.mem_singleton.1 hy]
    exact fun e => h3 (List.mem_map.2 ⟨x, hx, e.symm⟩)
theorem right_eq (l : List S30) : rightL [] l = (okKs l && eachP (fun k r => allP (namedP k) r.f1) l) := by
 rw [Bool.eq_iff_iff, Bool.and_eq_true, rightL_iff, okKs_all_iff, eachP_iff]
 constructor
 ·rintro ⟨h1, _, h3⟩
  refine ⟨⟨fun k hk => ⟨(h1 k hk).1, ?_⟩, h3⟩, fun k hk r hr => ?_⟩
  ·obtain ⟨a, _, c⟩ := (rightRs_iff k k.f1 []).1 (h1 k hk).2
   exact (okRs_iff k).2 ⟨fun r hr => (a r hr).1, c⟩
  ·exact (((rightRs_iff k k.f1 []).1 (h1 k hk).2).1 r hr).2
 ·rintro ⟨⟨h1, h3⟩, h2⟩
  refine ⟨fun k hk => ⟨(h1 k hk).1, ?_⟩, fun _ _ x hx => (by cases hx), h3⟩
  obtain ⟨a, c⟩ := (okRs_iff k).1 (h1 k hk).2
  exact (rightRs_iff k k.f1 []).2 ⟨fun r hr => ⟨a r hr, h2 k hk r hr⟩, fun _ _ x hx => (by cases hx), c⟩
theorem refCheck_ev (l : List S30) (hl : l.length ≤ 1099511627776) (ok : ∀ k ∈ l, okK_ k) : Ev (fun k => lunetteref12_Check.f k l) (checkP l) := by
 have h := chk_l0 l hl ok l.length 0 (decide ((l.length : Int) > 64)) true true (Nat.zero_add _)
 rw [List.drop_zero, List.take_zero, Bool.true_and, Bool.true_and, right_eq] at h
 have e : resC (decide ((l.length : Int) > 64) || l.any greatK) (l.all fun k => k.f1.all formR) (okKs l && eachP (fun k r => allP (namedP k) r.f1) l) = checkP l := by
  have hd : (decide ((l.length : Int) > 64) || l.any greatK) = (manyP l || !(eachP (fun _ r => notGreat r) l)) := by
   unfold manyP eachP greatK greatR
   rw [Bool.or_assoc]
   congr 1
   induction l with
   | nil => rfl
   | cons k l ih =>
    have ih := ih (by rw [List.length_cons] at hl; omega) (fun x hx => ok x (List.mem_cons_of_mem _ hx)) (chk_l0 _ (by rw [List.length_cons] at hl; omega) (fun x hx => ok x (List.mem_cons_of_mem _ hx)) _ 0 _ true true (Nat.zero_add _) |> fun h => by rw [List.drop_zero, List.take_zero, Bool.true_and, Bool.true_and, right_eq] at h; exact h)
    rw [List.any_cons, List.any_cons, List.all_cons, ih, anyr_not]
    cases decide ((k.f1.length : Int) > 64) <;> cases l.any (fun k => decide ((k.f1.length : Int) > 64)) <;> cases k.f1.all notGreat <;> simp
  rw [hd]
  unfold resC checkP
  rw [show (l.all fun k => k.f1.all formR) = eachP (fun _ r => allP formP r.f1) l from rfl]
  cases (manyP l || !(eachP (fun _ r => notGreat r) l)) <;> cases eachP (fun _ r => allP formP r.f1) l <;> cases (okKs l && eachP (fun k r => allP (namedP k) r.f1) l) <;> rfl
 rw [e] at h
 exact h
end Go.Proofs.YtjcipbdocbomjaaGreatDoor.K
namespace Go.Proofs.YtjcipbdocbomjaaGreatDoor.K
set_option linter.unusedVariables false
set_option linter.unusedSimpArgs false
open Go.RowKit Go.Proofs.YtjcipbdocbomjaaGreatDoorW.PrintWords Go.Proofs.YtjcipbdocbomjaaGreatDoorW.PrintLast Go.Proofs.YtjcipbdocbomjaaGreatDoorW.PrintMore
theorem size_add (a b : ByteArray) : (a ++ b).size = a.size + b.size := ByteArray.size_append
theorem partsP_put (y : S33) (l : List S33) : partsP (y :: l) = 32 :: (textP y ++ partsP l) := rfl
theorem refText_l0 (l : List S33) (a b c : ByteArray) (hl : l.length ≤ 1099511627776) (IH : ∀ y ∈ l, (textP y).length ≤ 1099511627776 → Ev (fun k => lunetteref12_text.f k y.f0 y.f1 y.f2 y.f3) (mk (textP y))) (m : Nat) :
  ∀ (i : Nat) (s : List UInt8), i + m = l.length → s.length + (partsP (l.drop i)).length + 1 ≤ 1099511627776 → Ev (fun k => lunetteref12_text.l0 k (mk s) (i : Int) a b c l) (mk (s ++ partsP (l.drop i) ++ [41])) := by
 induction m with
 | zero =>
  intro i s h hs
  rw [List.drop_eq_nil_of_le (by omega)] at hs ⊢
  refine Ev.step (f := fun _ => some (mk (s ++ [41]))) (fun k => ?_) (by rw [show s ++ partsP [] ++ [41] = s ++ [41] by simp [partsP]]; exact Ev.now _)
  simp only [lunetteref12_text.l0]
  rw [if_neg (by omega), if_pos (by rw [mk_size]; omega), show (⟨#[41]⟩ : ByteArray) = mk [41] from rfl, mk_append]
 | succ m ih =>
  intro i s h hs
  have hi : i < l.length := by omega
  rw [List.drop_eq_getElem_cons hi, partsP_put] at hs ⊢
  simp only [List.length_cons, List.length_append] at hs
  have hn := ih (i + 1) (s ++ (32 :: textP l[i])) (by omega) (by simp only [List.length_append, List.length_cons]; omega)
  rw [show s ++ (32 :: textP l[i]) ++ partsP (l.drop (i + 1)) ++ [41] = s ++ 32 :: (textP l[i] ++ partsP (l.drop (i + 1))) ++ [41] by simp] at hn
  refine Ev.step (f := fun k => (lunetteref12_text.f k l[i].f0 l[i].f1 l[i].f2 l[i].f3).bind fun t142 => (if 1 + t142.size ≤ 9223372036854775807 then (if (mk s).size + ((⟨#[32]⟩ : ByteArray) ++ t142).size ≤ 9223372036854775807 then (lunetteref12_text.l0 k (mk s ++ ((⟨#[32]⟩ : ByteArray) ++ t142)) ((i + 1 : Nat) : Int) a b c l) else (none)) else (none))) (fun k => ?_) ?_
  ·simp only [lunetteref12_text.l0]
   rw [if_pos (by omega), if_pos (by omega), rd33 hi, wrap_succ hi hl]
  ·refine (IH _ (List.getElem_mem hi) (by omega)).bind ?_
   refine Ev.congr (fun k => (if_pos (by rw [mk_size]; omega)).trans (if_pos (by rw [size_add, mk_size, mk_size, show (⟨#[32]⟩ : ByteArray).size = 1 from rfl]; omega))) ?_
   rw [show (⟨#[32]⟩ : ByteArray) = mk [32] from rfl, mk_append, mk_append]
   exact hn
theorem refText_ev (x : S33) : smallE x = true → (textP x).length ≤ 1099511627776 → Ev (fun k => lunetteref12_text.f k x.f0 x.f1 x.f2 x.f3) (mk (textP x)) := by
 induction x using S33.ind with
 | h x ih =>
  intro hs ht
  rw [textP_eq] at ht ⊢
  by_cases h1 : x.f0.toList = ([116, 104, 105, 115] : List UInt8)
  ·rw [if_pos h1]
   exact Ev.step (f := fun _ => some _) (fun k => by simp only [lunetteref12_text.f]; rw [if_pos h1]; rfl) (Ev.now _)
  rw [if_neg h1] at ht ⊢
  by_cases h2 : x.f0.toList = ([114, 101, 108] : List UInt8)
  ·rw [if_pos h2, mk_to]
   exact Ev.step (f := fun _ => some _) (fun k => by simp only [lunetteref12_text.f]; rw [if_neg h1, if_pos h2]) (Ev.now _)
  rw [if_neg h2] at ht ⊢
  by_cases h3 : x.f0.toList = ([102, 114, 111, 109] : List UInt8)
  ·rw [if_pos h3] at ht ⊢
   simp only [List.length_append, List.length_cons, List.length_nil, data_len] at ht
   refine Ev.step (f := fun _ => some _) (fun k => ?_) (Ev.now _)
   simp only [lunetteref12_text.f]
   have e6 : (⟨#[40, 102, 114, 111, 109, 32]⟩ : ByteArray).size = 6 := rfl
   have e1 : (⟨#[32]⟩ : ByteArray).size = 1 := rfl
   rw [if_neg h1, if_neg h2, if_pos h3, if_pos (by omega), if_pos (by rw [size_add]; omega), if_pos (by rw [size_add, size_add]; omega), if_pos (by rw [size_add, size_add, size_add]; omega)]
   congr 1
  ·rw [if_neg h3] at ht ⊢
   simp only [List.length_append, List.length_cons, List.length_nil] at ht
   have hp : ∀ y ∈ x.f3, (textP y).length ≤ (partsP x.f3).length := by
    intro y hy
    have : ∀ l : List S33, y ∈ l → (textP y).length ≤ (partsP l).length := by
     intro l
     induction l with
     | nil => intro h; cases h
     | cons z l ih =>
      intro h
      rw [partsP_put, List.length_cons, List.length_append]
      rcases List.mem_cons.1 h with rfl | h
      ·omega
      ·have := ih h; omega
    exact this _ hy
   have hd := data_len x.f0
   refine Ev.step (f := fun k => lunetteref12_text.l0 k (mk ([40] ++ x.f0.data.toList)) ((0 : Nat) : Int) x.f0 x.f1 x.f2 x.f3) (fun k => ?_) ?_
   ·simp only [lunetteref12_text.f]
    rw [if_neg h1, if_neg h2, if_neg h3, if_pos (by omega), ← mk_append, mk_to]
    rfl
   ·have := refText_l0 x.f3 x.f0 x.f1 x.f2 (smallE_len hs) (fun y hy hl => ih y hy (smallE_mem hs hy) hl) x.f3.length 0 ([40] ++ x.f0.data.toList) (Nat.zero_add _) (by rw [List.drop_zero, List.length_append, List.length_cons, List.length_nil]; omega)
    rw [List.drop_zero] at this
    exact this
theorem rulesL_cons (r : S35) (l : List S35) : rulesL (r :: l) = ruleL r ++ rulesL l := rfl
theorem showL_cons (k : S30) (l : List S30) : showL (k :: l) = (kindL k ++ rulesL k.f1) ++ showL l := rfl
theorem refShow_l1 (l : List S30) (i : Nat) (hi : i < l.length) (hl : l[i].f1.length ≤ 1099511627776) (hs : ∀ r ∈ l[i].f1, smallE r.f1 = true) (b : ByteArray) (m : Nat) :
  ∀ (j : Nat) (s : List UInt8), j + m = l[i].f1.length → s.length + (rulesL (l[i].f1.drop j)).length ≤ 1099511627776 →
   Ev (fun k => lunetteref12_Show.l0 k l (mk (s ++ rulesL (l[i].f1.drop j))) (wrap64 ((i : Int) + 1))) b → Ev (fun k => lunetteref12_Show.l1 k l (mk s) (i : Int) (j : Int)) b := by
 induction m with
 | zero =>
  intro j s h hz hN
  rw [List.drop_eq_nil_of_le (by omega), show rulesL [] = [] from rfl, List.append_nil] at hN
  refine Ev.step (fun k => ?_) hN
  simp only [lunetteref12_Show.l1]
  rw [if_pos (by omega), if_pos (by omega), rd30 hi, if_neg (by omega)]
 | succ m ih =>
  intro j s h hz hN
  have hj : j < l[i].f1.length := by omega
  rw [List.drop_eq_getElem_cons hj, rulesL_cons] at hz hN
  have RDI := rd30 hi
  have RDJ := rd35 hj
  have hsr := hs _ (List.getElem_mem hj)
  rw [← List.append_assoc] at hN
  have hn := ih (j + 1) (s ++ ruleL l[i].f1[j]) (by omega) (by simp only [List.length_append] at hz ⊢; omega) hN
  obtain ⟨r, hr⟩ : ∃ r, r = l[i].f1[j] := ⟨_, rfl⟩
  rw [← hr] at hn RDJ hz hsr
  have hrl : (ruleL r).length = r.f0.size + 3 + (textP r.f1).length + 1 := by
   unfold ruleL; simp only [List.length_append, List.length_cons, List.length_nil, data_len]
  rw [List.length_append, hrl] at hz
  have e3 : (⟨#[32, 61, 32]⟩ : ByteArray).size = 3 := rfl
  have e1 : (⟨#[10]⟩ : ByteArray).size = 1 := rfl
  refine Ev.step (f := fun k => (lunetteref12_text.f k r.f1.f0 r.f1.f1 r.f1.f2 r.f1.f3).bind fun t149 => (if (r.f0 ++ (⟨#[32, 61, 32]⟩ : ByteArray)).size + t149.size ≤ 9223372036854775807 then (if ((r.f0 ++ (⟨#[32, 61, 32]⟩ : ByteArray)) ++ t149).size + 1 ≤ 9223372036854775807 then (if (mk s).size + (((r.f0 ++ (⟨#[32, 61, 32]⟩ : ByteArray)) ++ t149) ++ (⟨#[10]⟩ : ByteArray)).size ≤ 9223372036854775807 then (lunetteref12_Show.l1 k l (mk s ++ (((r.f0 ++ (⟨#[32, 61, 32]⟩ : ByteArray)) ++ t149) ++ (⟨#[10]⟩ : ByteArray))) (i : Int) ((j + 1 : Nat) : Int)) else (none)) else (none)) else (none))) (fun k => ?_) ?_
  ·simp only [lunetteref12_Show.l1]
   rw [if_pos (by omega), if_pos (by omega), RDI, if_pos (by omega), if_pos (by omega), RDJ, if_pos (by omega), wrap_succ hj hl]
  ·refine (refText_ev r.f1 hsr (by omega)).bind ?_
   refine Ev.congr (fun k => (if_pos (by rw [size_add, mk_size]; omega)).trans ((if_pos (by rw [size_add, size_add, mk_size]; omega)).trans (if_pos (by rw [size_add, size_add, size_add, mk_size, mk_size]; omega)))) ?_
   rw [show mk s ++ (((r.f0 ++ (⟨#[32, 61, 32]⟩ : ByteArray)) ++ mk (textP r.f1)) ++ (⟨#[10]⟩ : ByteArray)) = mk (s ++ ruleL r) by
    conv => lhs; rw [← mk_to r.f0]
    rw [show (⟨#[32, 61, 32]⟩ : ByteArray) = mk [32, 61, 32] from rfl, show (⟨#[10]⟩ : ByteArray) = mk [10] from rfl, mk_append, mk_append, mk_append, mk_append]
    rfl]
   exact hn
theorem refShow_l0 (l : List S30) (hs : smallL l = true) (m : Nat) :
  ∀ (i : Nat) (s : List UInt8), i + m = l.length → s.length + (showL (l.drop i)).length ≤ 1099511627776 → Ev (fun k => lunetteref12_Show.l0 k l (mk s) (i : Int)) (mk (s ++ showL (l.drop i))) := by
 induction m with
 | zero =>
  intro i s h hz
  rw [List.drop_eq_nil_of_le (by omega), show showL [] = [] from rfl, List.append_nil]
  refine Ev.step (f := fun _ => some (mk s)) (fun k => ?_) (Ev.now _)
  simp only [lunetteref12_Show.l0]
  rw [if_neg (by omega)]
 | succ m ih =>
  intro i s h hz
  have hi : i < l.length := by omega
  have hk : l[i] ∈ l := List.getElem_mem hi
  rw [List.drop_eq_getElem_cons hi, showL_cons] at hz ⊢
  have hz2 := hz
  simp only [List.length_append] at hz
  have hn := ih (i + 1) (s ++ (kindL l[i] ++ rulesL l[i].f1)) (by omega) (by simp only [List.length_append]; omega)
  have hkl : (kindL l[i]).length = 5 + l[i].f0.size + 1 := by
   unfold kindL; simp only [List.length_append, List.length_cons, List.length_nil, data_len]
  rw [hkl] at hz
  have e5 : (⟨#[107, 105, 110, 100, 32]⟩ : ByteArray).size = 5 := rfl
  have e1 : (⟨#[10]⟩ : ByteArray).size = 1 := rfl
  refine Ev.step (f := fun k => lunetteref12_Show.l1 k l (mk (s ++ kindL l[i])) (i : Int) ((0 : Nat) : Int)) (fun k => ?_) ?_
  ·simp only [lunetteref12_Show.l0]
   rw [if_pos (by omega), if_pos (by omega), rd30 hi, if_pos (by omega), if_pos (by rw [size_add]; omega), if_pos (by rw [size_add, size_add, mk_size]; omega)]
   congr 1
  ·refine refShow_l1 l i hi (smallL_rules hs hk) (fun r hr => smallL_expr hs hk hr) _ _ 0 _ (Nat.zero_add _) (by rw [List.drop_zero, List.length_append, hkl]; omega) ?_
   rw [List.drop_zero, wrap_succ hi (smallL_len hs), List.append_assoc s (kindL l[i]), ← List.append_assoc s (kindL l[i] ++ rulesL l[i].f1)]
   exact hn
theorem refShow_ev (l : List S30) (hs : smallL l = true) (hz : (showL l).length ≤ 1099511627776) : Ev (fun k => lunetteref12_Show.f k l) (mk (showL l)) := by
 have := refShow_l0 l hs l.length 0 [] (Nat.zero_add _) (by rw [List.drop_zero, List.length_nil]; omega)
 rw [List.drop_zero, List.nil_append] at this
 exact this
end Go.Proofs.YtjcipbdocbomjaaGreatDoor.K
namespace Go.Proofs.YtjcipbdocbomjaaGreatDoor.K
set_option linter.unusedVariables false
set_option linter.unusedSimpArgs false
open Go.RowKit Go.Proofs.YtjcipbdocbomjaaGreatDoorW.PrintWords Go.Proofs.YtjcipbdocbomjaaGreatDoorW.PrintLast Go.Proofs.YtjcipbdocbomjaaGreatDoorW.PrintMore
abbrev PR := ByteArray × ByteArray × ByteArray × List S33 × List ByteArray × Bool
def exprOf (r : PR) : S33 := ⟨r.1, r.2.1, r.2.2.1, r.2.2.2.1⟩
def bytesN (l : List ByteArray) : Nat := (l.map (·.size)).sum
theorem bytesN_cons (s : ByteArray) (l : List ByteArray) : bytesN (s :: l) = s.size + bytesN l := by unfold bytesN; rw [List.map_cons, List.sum_cons]
theorem bytesN_append (a b : List ByteArray) : bytesN (a ++ b) = bytesN a + bytesN b := by unfold bytesN; rw [List.map_append, List.sum_append]
def nextV (l : List ByteArray) (ok : Bool) : ByteArray × List ByteArray × Bool := match l with | [] => (⟨#[]⟩, [], false) | s :: l => (s, l, ok)
theorem next_f {l : List ByteArray} (ok : Bool) (h : l.length ≤ 1000000000000) : parser_next.f l ok = some (nextV l ok) := by
 unfold parser_next.f nextV
 cases l with
 | nil => rfl
 | cons s l => exact if_pos (by rw [List.length_cons] at h; omega)
/-- What the next piece leaves. -/
theorem next_cut (l : List ByteArray) (ok : Bool) : ∃ c, l = c ++ (nextV l ok).2.1 ∧ c.length ≤ 1 ∧ (nextV l ok).1.size = bytesN c ∧ ((nextV l ok).2.2 = true → ok = true ∧ c.length = 1) ∧ (nextV l ok).2.1.length ≤ l.length := by
 cases l with
 | nil => exact ⟨[], rfl, by decide, rfl, (fun h => by cases h), Nat.le_refl _⟩
 | cons s l => exact ⟨[s], rfl, Nat.le_refl _, by unfold bytesN; simp [nextV], fun h => ⟨h, rfl⟩, by simp [nextV]⟩
theorem no_paren : ¬ (⟨#[]⟩ : ByteArray).toList = ([40] : List UInt8) := by rw [tl_data]; decide
theorem no_close : ¬ (⟨#[]⟩ : ByteArray).toList = ([41] : List UInt8) := by rw [tl_data]; decide
theorem parts_sum (l : List S33) (x : S33) : ((l ++ [x]).map tsize).sum = (l.map tsize).sum + tsize x := by rw [List.map_append, List.sum_append, List.map_cons, List.map_nil, List.sum_cons, List.sum_nil, Nat.add_zero]
theorem j2_false (l : List ByteArray) (ok : Bool) (op name of : ByteArray) (parts : List S33) (hl : l.length ≤ 1000000000000) :
  ∃ rest ok', Ev (fun k => rule_parser_expr.j2 k false l ok op name of parts) (op, name, of, parts, rest, ok') ∧ ∃ c, l = c ++ rest ∧ (ok' = true → ok = true ∧ formP ⟨op, name, of, parts⟩ = true) := by
 cases ok with
 | false => exact ⟨l, false, Ev.step (f := fun _ => some _) (fun k => by simp only [rule_parser_expr.j2, Bool.false_eq_true, if_false]) (Ev.now _), [], rfl, fun h => by cases h⟩
 | true =>
  obtain ⟨c, hc, _⟩ := next_cut l true
  by_cases h : (nextV l true).1.toList = ([41] : List UInt8)
  ·by_cases hf : formP ⟨op, name, of, parts⟩ = true
   ·by_cases ht : op.toList = ([116, 104, 105, 115] : List UInt8)
    ·refine ⟨_, false, Ev.step (f := fun k => (rule_form.f k op name of parts).bind fun t133 => (if t133 = true then (if op.toList = ([116, 104, 105, 115] : List UInt8) then (some (op, name, of, parts, (nextV l true).2.1, false)) else (some (op, name, of, parts, (nextV l true).2.1, (op.toList != ([114, 101, 108] : List UInt8))))) else (some (op, name, of, parts, (nextV l true).2.1, false)))) (fun k => ?_) ?_, c, hc, fun h => by cases h⟩
     ·simp only [rule_parser_expr.j2, Bool.false_eq_true, if_false, if_true]
      rw [next_f true hl, Option.bind_some, if_pos h]
     ·refine Ev.step (f := fun _ => some _) (fun k => ?_) (Ev.now _)
      show (rule_form.f (k + 1) op name of parts).bind _ = _
      rw [form_eq ⟨op, name, of, parts⟩ k, Option.bind_some, if_pos hf, if_pos ht]
    ·refine ⟨_, (op.toList != ([114, 101, 108] : List UInt8)), Ev.step (f := fun k => (rule_form.f k op name of parts).bind fun t133 => (if t133 = true then (if op.toList = ([116, 104, 105, 115] : List UInt8) then (some (op, name, of, parts, (nextV l true).2.1, false)) else (some (op, name, of, parts, (nextV l true).2.1, (op.toList != ([114, 101, 108] : List UInt8))))) else (some (op, name, of, parts, (nextV l true).2.1, false)))) (fun k => ?_) ?_, c, hc, fun _ => ⟨rfl, hf⟩⟩
     ·simp only [rule_parser_expr.j2, Bool.false_eq_true, if_false, if_true]
      rw [next_f true hl, Option.bind_some, if_pos h]
     ·refine Ev.step (f := fun _ => some _) (fun k => ?_) (Ev.now _)
      show (rule_form.f (k + 1) op name of parts).bind _ = _
      rw [form_eq ⟨op, name, of, parts⟩ k, Option.bind_some, if_pos hf, if_neg ht]
   ·refine ⟨_, false, Ev.step (f := fun k => (rule_form.f k op name of parts).bind fun t133 => (if t133 = true then (if op.toList = ([116, 104, 105, 115] : List UInt8) then (some (op, name, of, parts, (nextV l true).2.1, false)) else (some (op, name, of, parts, (nextV l true).2.1, (op.toList != ([114, 101, 108] : List UInt8))))) else (some (op, name, of, parts, (nextV l true).2.1, false)))) (fun k => ?_) ?_, c, hc, fun h => by cases h⟩
    ·simp only [rule_parser_expr.j2, Bool.false_eq_true, if_false, if_true]
     rw [next_f true hl, Option.bind_some, if_pos h]
    ·refine Ev.step (f := fun _ => some _) (fun k => ?_) (Ev.now _)
     show (rule_form.f (k + 1) op name of parts).bind _ = _
     rw [form_eq ⟨op, name, of, parts⟩ k, Option.bind_some, if_neg hf]
  ·refine ⟨_, false, Ev.step (f := fun _ => some _) (fun k => ?_) (Ev.now _), c, hc, fun h => by cases h⟩
   simp only [rule_parser_expr.j2, Bool.false_eq_true, if_false, if_true]
   rw [next_f true hl, Option.bind_some, if_neg h]
/-- What the parser's answer keeps to. -/
structure Fine (l : List ByteArray) (ok : Bool) (r : PR) : Prop where
 cut : ∃ c, l = c ++ r.2.2.2.2.1 ∧ (l ≠ [] → 1 ≤ c.length ∧ tsize (exprOf r) ≤ c.length ∧ (textP (exprOf r)).length + 1 ≤ 8 * c.length + bytesN c)
 good : r.2.2.2.2.2 = true → ok = true ∧ l ≠ [] ∧ allP formP (exprOf r) = true
theorem expr_l0 (n : Nat) (hn : n ≤ 1000000000000) (IH : ∀ (l : List ByteArray) (ok : Bool), l.length < n → ∃ r, Ev (fun k => rule_parser_expr.f k l ok) r ∧ Fine l ok r) (op name of : ByteArray) (m : Nat) :
  ∀ (l : List ByteArray) (ok : Bool) (parts : List S33), l.length ≤ m → m < n → parts.length + l.length ≤ 1000000000000 →
   ∃ new rest ok', Ev (fun k => rule_parser_expr.l0 k l ok op name of parts) (op, name, of, parts ++ new, rest, ok') ∧ ∃ c, l = c ++ rest ∧ (new.map tsize).sum ≤ c.length ∧ (partsP new).length ≤ 8 * c.length + bytesN c ∧
    (ok' = true → ok = true ∧ formP ⟨op, name, of, parts ++ new⟩ = true ∧ ∀ y ∈ new, allP formP y = true) ∧ (op.toList = ([102, 114, 111, 109] : List UInt8) → new = []) := by
 induction m with
 | zero =>
  intro l ok parts hl hm hp
  obtain rfl : l = [] := List.eq_nil_of_length_eq_zero (by omega)
  obtain ⟨rest, ok', he, c, hc, hg⟩ := j2_false [] ok op name of parts (by decide)
  refine ⟨[], rest, ok', ?_, c, hc, by simp, by simp [partsP], fun h => ⟨(hg h).1, by rw [List.append_nil]; exact (hg h).2, fun y hy => by cases hy⟩, fun _ => rfl⟩
  rw [List.append_nil]
  refine Ev.step (fun k => ?_) he
  simp only [rule_parser_expr.l0]
  by_cases h1 : op.toList = ([102, 114, 111, 109] : List UInt8)
  ·rw [if_pos h1]
  ·rw [if_neg h1]
   cases ok with
   | false => rw [if_neg (by decide)]
   | true => rw [if_pos rfl, if_neg (by decide)]
 | succ m ih =>
  intro l ok parts hl hm hp
  have endsNow : ∀ (h : ∀ k, rule_parser_expr.l0 (k + 1) l ok op name of parts = rule_parser_expr.j2 k false l ok op name of parts), ∃ new rest ok', Ev (fun k => rule_parser_expr.l0 k l ok op name of parts) (op, name, of, parts ++ new, rest, ok') ∧ ∃ c, l = c ++ rest ∧ (new.map tsize).sum ≤ c.length ∧ (partsP new).length ≤ 8 * c.length + bytesN c ∧
    (ok' = true → ok = true ∧ formP ⟨op, name, of, parts ++ new⟩ = true ∧ ∀ y ∈ new, allP formP y = true) ∧ (op.toList = ([102, 114, 111, 109] : List UInt8) → new = []) := by
   intro h
   obtain ⟨rest, ok', he, c, hc, hg⟩ := j2_false l ok op name of parts (by omega)
   refine ⟨[], rest, ok', ?_, c, hc, by simp, by simp [partsP], fun h => ⟨(hg h).1, by rw [List.append_nil]; exact (hg h).2, fun y hy => by cases hy⟩, fun _ => rfl⟩
   rw [List.append_nil]
   exact Ev.step h he
  by_cases h1 : op.toList = ([102, 114, 111, 109] : List UInt8)
  ·exact endsNow fun k => by simp only [rule_parser_expr.l0]; rw [if_pos h1]
  cases ok with
  | false => exact endsNow fun k => by simp only [rule_parser_expr.l0]; rw [if_neg h1, if_neg (by decide)]
  | true =>
   cases l with
   | nil => exact endsNow fun k => by simp only [rule_parser_expr.l0]; rw [if_neg h1, if_pos trivial, if_neg (by decide)]
   | cons s l1 =>
    have hh : rdOf ByteArray.empty (s :: l1) 0 = s := rfl
    have hlen : ((s :: l1).length : Int) > 0 := by rw [List.length_cons]; omega
    by_cases h2 : s.toList = ([41] : List UInt8)
    ·exact endsNow fun k => by
      simp only [rule_parser_expr.l0]
      rw [if_neg h1, if_pos trivial, if_pos hlen, if_pos hlen, hh, h2]
      rfl
    ·obtain ⟨r, hr, hf⟩ := IH (s :: l1) true (by omega)
     obtain ⟨c, hc, hcc⟩ := hf.cut
     obtain ⟨k1, k2, k3⟩ := hcc (by simp)
     have hl2 : (s :: l1).length = c.length + r.2.2.2.2.1.length := by conv => lhs; rw [hc, List.length_append]
     obtain ⟨new, rest, ok', he, c2, hc2, s1, s2, s3, s4⟩ := ih r.2.2.2.2.1 r.2.2.2.2.2 (parts ++ [exprOf r]) (by omega) (by omega) (by rw [List.length_append, List.length_cons, List.length_nil]; omega)
     refine ⟨exprOf r :: new, rest, ok', ?_, c ++ c2, by rw [List.append_assoc, ← hc2, ← hc], ?_, ?_, fun h => ?_, fun h => absurd h h1⟩
     ·rw [show parts ++ exprOf r :: new = parts ++ [exprOf r] ++ new by simp]
      refine Ev.step (f := fun k => rule_parser_expr.j2 k true (s :: l1) true op name of parts) (fun k => ?_) ?_
      ·simp only [rule_parser_expr.l0]
       rw [if_neg h1, if_pos trivial, if_pos hlen, if_pos hlen, hh, show (s.toList != ([41] : List UInt8)) = true by rw [bne_iff_ne]; exact h2]
      ·refine Ev.step (f := fun k => (rule_parser_expr.f k (s :: l1) true).bind fun bt119 => (if parts.length < 1954687338268 then (rule_parser_expr.l0 k bt119.2.2.2.2.1 bt119.2.2.2.2.2 op name of (parts ++ [(⟨bt119.1, bt119.2.1, bt119.2.2.1, bt119.2.2.2.1⟩ : S33)])) else (none))) (fun k => by simp only [rule_parser_expr.j2, if_true]) ?_
       exact hr.bind (Ev.congr (fun k => if_pos (by omega)) he)
     ·rw [List.map_cons, List.sum_cons, List.length_append]; omega
     ·rw [show partsP (exprOf r :: new) = 32 :: textP (exprOf r) ++ partsP new from rfl, List.length_append, List.length_append, List.length_cons, bytesN_append]; omega
     ·obtain ⟨t1, t2, t3⟩ := s3 h
      refine ⟨rfl, by rw [show parts ++ exprOf r :: new = parts ++ [exprOf r] ++ new by simp]; exact t2, fun y hy => ?_⟩
      rcases List.mem_cons.1 hy with rfl | hy
      ·exact (hf.good t1).2.2
      ·exact t3 y hy
theorem tsize_parts (op name of : ByteArray) (l : List S33) : tsize ⟨op, name, of, l⟩ = 1 + (l.map tsize).sum := tsize_eq _
theorem allP_parts (op name of : ByteArray) (l : List S33) (h : formP ⟨op, name, of, l⟩ = true) (ha : ∀ y ∈ l, allP formP y = true) : allP formP ⟨op, name, of, l⟩ = true := by
 rw [allP_eq, Bool.and_eq_true, List.all_eq_true]; exact ⟨h, ha⟩
def wThis : ByteArray := ⟨#[116, 104, 105, 115]⟩
def wRel : ByteArray := ⟨#[114, 101, 108]⟩
def nil_ : ByteArray := ⟨#[]⟩
theorem leaf_this : allP formP ⟨wThis, nil_, nil_, []⟩ = true ∧ textP ⟨wThis, nil_, nil_, []⟩ = [116, 104, 105, 115] := by
 have e : wThis.toList = ([116, 104, 105, 115] : List UInt8) := by rw [tl_data]; rfl
 have e0 : nil_.toList = ([] : List UInt8) := by rw [tl_data]; rfl
 refine ⟨allP_parts _ _ _ _ ?_ (fun y hy => by cases hy), ?_⟩
 ·unfold formP; rw [if_pos e, e0]; rfl
 ·rw [textP_eq, if_pos e]
theorem leaf_rel (s : ByteArray) : allP formP ⟨wRel, s, nil_, []⟩ = true ∧ textP ⟨wRel, s, nil_, []⟩ = s.data.toList := by
 have e : wRel.toList = ([114, 101, 108] : List UInt8) := by rw [tl_data]; rfl
 have e0 : nil_.toList = ([] : List UInt8) := by rw [tl_data]; rfl
 refine ⟨allP_parts _ _ _ _ ?_ (fun y hy => by cases hy), ?_⟩
 ·unfold formP; rw [if_neg (by rw [e]; decide), if_pos e, e0]; rfl
 ·rw [textP_eq, if_neg (by rw [e]; decide), if_pos e]
theorem tsize_leaf (a b c : ByteArray) : tsize ⟨a, b, c, []⟩ = 1 := by rw [tsize_parts]; rfl
/-- A text's length, for one that is no 'from'. -/
theorem text_bound (op : ByteArray) (l : List S33) (h : ¬ op.toList = ([102, 114, 111, 109] : List UInt8)) : (textP ⟨op, nil_, nil_, l⟩).length ≤ 2 + op.size + (partsP l).length := by
 rw [textP_eq]
 by_cases h1 : op.toList = ([116, 104, 105, 115] : List UInt8)
 ·rw [if_pos h1]
  have : op.size = 4 := by rw [tl_data] at h1; rw [← data_len, h1]; rfl
  simp only [List.length_cons, List.length_nil]; omega
 ·rw [if_neg h1]
  by_cases h2 : op.toList = ([114, 101, 108] : List UInt8)
  ·rw [if_pos h2]
   have : nil_.data.toList.length = 0 := rfl
   show nil_.data.toList.length ≤ _
   omega
  ·rw [if_neg h2, if_neg h]
   simp only [List.length_append, List.length_cons, List.length_nil, data_len]; omega
theorem expr_ev (n : Nat) : n ≤ 1000000000 → ∀ (l : List ByteArray) (ok : Bool), l.length < n → ∃ r, Ev (fun k => rule_parser_expr.f k l ok) r ∧ Fine l ok r := by
 induction n with
 | zero => intro _ l ok h; omega
 | succ n IH =>
  intro hn l ok hl
  have IH := IH (by omega)
  cases l with
  | nil =>
   refine ⟨(wRel, nil_, nil_, [], [], false), ?_, ⟨[], rfl, fun h => absurd rfl h⟩, fun h => by cases h⟩
   refine Ev.step (f := fun _ => some _) (fun k => ?_) (Ev.now _)
   simp only [rule_parser_expr.f]
   rw [next_f ok (by decide), Option.bind_some]
   have e0 : ∀ l : List UInt8, ¬ l = [] → ¬ (nextV [] ok).1.toList = l := by
    intro l h
    show ¬ (⟨#[]⟩ : ByteArray).toList = l
    rw [tl_data]
    exact fun e => h (by rw [← e])
   rw [if_neg (e0 _ (by decide)), if_neg (show ¬ (nextV [] ok).2.2 = true by show ¬ false = true; decide), if_neg (e0 _ (by decide))]
   rfl
  | cons s l1 =>
   rw [List.length_cons] at hl
   by_cases hs : s.toList = ([40] : List UInt8)
   ·-- an operator
    have hs1 : s.size = 1 := by rw [tl_data] at hs; rw [← data_len, hs]; rfl
    obtain ⟨c1, hc1, n1, b1, g1, z1⟩ := next_cut l1 ok
    have hl1 : l1.length = c1.length + (nextV l1 ok).2.1.length := by conv => lhs; rw [hc1, List.length_append]
    by_cases hf : (nextV l1 ok).1.toList = ([102, 114, 111, 109] : List UInt8)
    ·-- a 'from'
     obtain ⟨c2, hc2, n2, b2, g2, z2⟩ := next_cut (nextV l1 ok).2.1 (nextV l1 ok).2.2
     obtain ⟨c3, hc3, n3, b3, g3, z3⟩ := next_cut (nextV (nextV l1 ok).2.1 (nextV l1 ok).2.2).2.1 (nextV (nextV l1 ok).2.1 (nextV l1 ok).2.2).2.2
     have hd : ∃ b : Bool, (b = true → ok = true) ∧ ∀ k, rule_parser_expr.f (k + 1) (s :: l1) ok = rule_parser_expr.j0 k (nextV (nextV (nextV l1 ok).2.1 (nextV l1 ok).2.2).2.1 (nextV (nextV l1 ok).2.1 (nextV l1 ok).2.2).2.2).2.1 b (nextV l1 ok).1 (nextV (nextV (nextV l1 ok).2.1 (nextV l1 ok).2.2).2.1 (nextV (nextV l1 ok).2.1 (nextV l1 ok).2.2).2.2).1 (nextV (nextV l1 ok).2.1 (nextV l1 ok).2.2).1 := by
      have base : ∀ k, rule_parser_expr.f (k + 1) (s :: l1) ok = (fun (bt102 : ByteArray × List ByteArray × Bool) => rule_parser_expr.f (k + 1) (s :: l1) ok) (s, l1, ok) := fun k => rfl
      by_cases w1 : (nextV (nextV (nextV l1 ok).2.1 (nextV l1 ok).2.2).2.1 (nextV (nextV l1 ok).2.1 (nextV l1 ok).2.2).2.2).2.2 = true
      ·have hok : ok = true := (g1 (g2 (g3 w1).1).1).1
       by_cases w2 : wordP (nextV (nextV l1 ok).2.1 (nextV l1 ok).2.2).1 = true
       ·refine ⟨wordP (nextV (nextV (nextV l1 ok).2.1 (nextV l1 ok).2.2).2.1 (nextV (nextV l1 ok).2.1 (nextV l1 ok).2.2).2.2).1, fun _ => hok, fun k => ?_⟩
        simp only [rule_parser_expr.f]
        rw [next_f ok (by rw [List.length_cons]; omega), Option.bind_some]
        show (if s.toList = ([40] : List UInt8) then _ else _) = _
        rw [if_pos hs]
        show (parser_next.f l1 ok).bind _ = _
        rw [next_f ok (by omega), Option.bind_some, if_pos hf, next_f _ (by omega), Option.bind_some, next_f _ (by omega), Option.bind_some, if_pos w1]
        show (rule_word.f _).bind _ = _
        unfold rule_word.f
        rw [Option.bind_some, if_pos w2, Option.bind_some]
       ·refine ⟨false, (fun h => by cases h), fun k => ?_⟩
        simp only [rule_parser_expr.f]
        rw [next_f ok (by rw [List.length_cons]; omega), Option.bind_some]
        show (if s.toList = ([40] : List UInt8) then _ else _) = _
        rw [if_pos hs]
        show (parser_next.f l1 ok).bind _ = _
        rw [next_f ok (by omega), Option.bind_some, if_pos hf, next_f _ (by omega), Option.bind_some, next_f _ (by omega), Option.bind_some, if_pos w1]
        show (rule_word.f _).bind _ = _
        unfold rule_word.f
        rw [Option.bind_some, if_neg w2]
      ·refine ⟨false, (fun h => by cases h), fun k => ?_⟩
       simp only [rule_parser_expr.f]
       rw [next_f ok (by rw [List.length_cons]; omega), Option.bind_some]
       show (if s.toList = ([40] : List UInt8) then _ else _) = _
       rw [if_pos hs]
       show (parser_next.f l1 ok).bind _ = _
       rw [next_f ok (by omega), Option.bind_some, if_pos hf, next_f _ (by omega), Option.bind_some, next_f _ (by omega), Option.bind_some, if_neg w1]
     obtain ⟨b, hb, hd⟩ := hd
     generalize nextV (nextV (nextV l1 ok).2.1 (nextV l1 ok).2.2).2.1 (nextV (nextV l1 ok).2.1 (nextV l1 ok).2.2).2.2 = q3 at *
     generalize nextV (nextV l1 ok).2.1 (nextV l1 ok).2.2 = q2 at *
     generalize nextV l1 ok = q1 at *
     obtain ⟨new, rest, ok', he, c4, hc4, s1, s2, s3, s4⟩ := expr_l0 n (by omega) IH q1.1 q3.1 q2.1 q3.2.1.length q3.2.1 b [] (Nat.le_refl _) (by omega) (by rw [List.length_nil]; omega)
     have hnew := s4 hf
     subst hnew
     rw [List.append_nil] at he s3
     refine ⟨_, Ev.step hd (Ev.step (fun k => by simp only [rule_parser_expr.j0]) he), ⟨s :: (c1 ++ (c2 ++ (c3 ++ c4))), ?_, fun _ => ⟨by rw [List.length_cons]; omega, ?_, ?_⟩⟩, fun h => ?_⟩
     ·show s :: l1 = s :: (c1 ++ (c2 ++ (c3 ++ c4))) ++ rest
      rw [List.cons_append, List.append_assoc, List.append_assoc, List.append_assoc, ← hc4, ← hc3, ← hc2, ← hc1]
     ·show tsize ⟨_, _, _, []⟩ ≤ _
      rw [tsize_leaf, List.length_cons]; omega
     ·show (textP ⟨q1.1, q3.1, q2.1, []⟩).length + 1 ≤ _
      have h1 : ¬ q1.1.toList = ([116, 104, 105, 115] : List UInt8) := by rw [hf]; decide
      have h2 : ¬ q1.1.toList = ([114, 101, 108] : List UInt8) := by rw [hf]; decide
      have hz : q1.1.size = 4 := by rw [tl_data] at hf; rw [← data_len, hf]; rfl
      have hc1l : 1 ≤ c1.length := by
       cases c1 with
       | nil => rw [hz] at b1; exact absurd b1 (by decide)
       | cons _ _ => rw [List.length_cons]; omega
      rw [textP_eq, if_neg h1, if_neg h2, if_pos hf, bytesN_cons, bytesN_append, bytesN_append, bytesN_append]
      simp only [List.length_append, List.length_cons, List.length_nil, data_len]
      omega
     ·obtain ⟨t1, t2, _⟩ := s3 h
      exact ⟨hb t1, by simp, allP_parts _ _ _ _ t2 (fun y hy => by cases hy)⟩
    ·have hd : ∀ k, rule_parser_expr.f (k + 1) (s :: l1) ok = rule_parser_expr.j0 k (nextV l1 ok).2.1 (nextV l1 ok).2.2 (nextV l1 ok).1 nil_ nil_ := by
      intro k
      simp only [rule_parser_expr.f]
      rw [next_f ok (by rw [List.length_cons]; omega), Option.bind_some]
      show (if s.toList = ([40] : List UInt8) then _ else _) = _
      rw [if_pos hs]
      show (parser_next.f l1 ok).bind _ = _
      rw [next_f ok (by omega), Option.bind_some, if_neg hf]
      rfl
     generalize nextV l1 ok = q1 at *
     obtain ⟨new, rest, ok', he, c4, hc4, s1, s2, s3, s4⟩ := expr_l0 n (by omega) IH q1.1 nil_ nil_ q1.2.1.length q1.2.1 q1.2.2 [] (Nat.le_refl _) (by omega) (by rw [List.length_nil]; omega)
     rw [List.nil_append] at he s3
     refine ⟨_, Ev.step hd (Ev.step (fun k => by simp only [rule_parser_expr.j0]) he), ⟨s :: (c1 ++ c4), ?_, fun _ => ⟨by rw [List.length_cons]; omega, ?_, ?_⟩⟩, fun h => ?_⟩
     ·show s :: l1 = s :: (c1 ++ c4) ++ rest
      rw [List.cons_append, List.append_assoc, ← hc4, ← hc1]
     ·show tsize ⟨_, _, _, new⟩ ≤ _
      rw [tsize_parts, List.length_cons, List.length_append]; omega
     ·show (textP ⟨q1.1, nil_, nil_, new⟩).length + 1 ≤ _
      have := text_bound q1.1 new hf
      rw [bytesN_cons, bytesN_append, List.length_cons, List.length_append]
      omega
     ·obtain ⟨t1, t2, t3⟩ := s3 h
      exact ⟨(g1 t1).1, by simp, allP_parts _ _ _ _ t2 t3⟩
   ·-- a leaf
    have hw : ∀ k, rule_parser_expr.f (k + 1) (s :: l1) ok = some (if s.toList = ([116, 104, 105, 115] : List UInt8) then (wThis, nil_, nil_, [], l1, ok && wordP s) else (wRel, s, nil_, [], l1, ok && wordP s)) := by
     intro k
     simp only [rule_parser_expr.f]
     rw [next_f ok (by rw [List.length_cons]; omega), Option.bind_some]
     show (if s.toList = ([40] : List UInt8) then _ else _) = _
     rw [if_neg hs]
     show (if ok = true then _ else _) = _
     unfold rule_word.f
     cases ok with
     | true =>
      rw [if_pos rfl, Option.bind_some, Bool.true_and]
      by_cases ht : s.toList = ([116, 104, 105, 115] : List UInt8)
      ·rw [if_pos ht]; exact if_pos ht
      ·rw [if_neg ht]; exact if_neg ht
     | false =>
      rw [if_neg (by decide), Bool.false_and]
      by_cases ht : s.toList = ([116, 104, 105, 115] : List UInt8)
      ·rw [if_pos ht]; exact if_pos ht
      ·rw [if_neg ht]; exact if_neg ht
    refine ⟨_, Ev.step hw (Ev.now _), ?_⟩
    by_cases ht : s.toList = ([116, 104, 105, 115] : List UInt8)
    ·rw [if_pos ht]
     refine ⟨⟨[s], rfl, fun _ => ⟨Nat.le_refl _, ?_, ?_⟩⟩, fun h => ?_⟩
     ·show tsize ⟨_, _, _, []⟩ ≤ _
      rw [tsize_leaf]; exact Nat.le_refl _
     ·show (textP ⟨wThis, nil_, nil_, []⟩).length + 1 ≤ _
      rw [leaf_this.2, bytesN_cons]
      simp only [List.length_cons, List.length_nil]; omega
     ·have h : (ok && wordP s) = true := h
      rw [Bool.and_eq_true] at h
      exact ⟨h.1, by simp, leaf_this.1⟩
    ·rw [if_neg ht]
     refine ⟨⟨[s], rfl, fun _ => ⟨Nat.le_refl _, ?_, ?_⟩⟩, fun h => ?_⟩
     ·show tsize ⟨_, _, _, []⟩ ≤ _
      rw [tsize_leaf]; exact Nat.le_refl _
     ·show (textP ⟨wRel, s, nil_, []⟩).length + 1 ≤ _
      rw [(leaf_rel s).2, bytesN_cons, data_len]
      simp only [List.length_cons, List.length_nil]; omega
     ·have h : (ok && wordP s) = true := h
      rw [Bool.and_eq_true] at h
      exact ⟨h.1, by simp, (leaf_rel s).1⟩
end Go.Proofs.YtjcipbdocbomjaaGreatDoor.K
namespace Go.Proofs.YtjcipbdocbomjaaGreatDoor.K
set_option linter.unusedVariables false
set_option linter.unusedSimpArgs false
open Go.RowKit Go.Proofs.YtjcipbdocbomjaaGreatDoorW.PrintWords Go.Proofs.YtjcipbdocbomjaaGreatDoorW.PrintLast Go.Proofs.YtjcipbdocbomjaaGreatDoorW.PrintMore
/-! Cut. -/
theorem cut_miss {s sep : List UInt8} (h : (Lib.cut s sep).2.2 = false) : Lib.cut s sep = (s, [], false) := by
 unfold Lib.cut at h ⊢
 split at h
 ·cases h
 ·rename_i hn; rw [if_neg hn]
theorem cut_split {s sep : List UInt8} (h : (Lib.cut s sep).2.2 = true) : ∃ a b, s = a ++ (sep ++ b) ∧ Lib.cut s sep = (a, b, true) ∧ ∀ j, j < a.length → Lib.occAt s sep j = false := by
 rcases Lib.index_spec s sep with ⟨h1, _⟩ | ⟨i, h1, h2, h3, h4⟩
 ·unfold Lib.cut at h
  rw [h1, if_neg (by decide)] at h
  cases h
 ·unfold Lib.occAt at h3
  rw [List.isPrefixOf_iff_prefix] at h3
  obtain ⟨t, ht⟩ := h3
  have hs : s = s.take i ++ (sep ++ t) := by rw [ht]; exact (List.take_append_drop i s).symm
  refine ⟨s.take i, t, hs, ?_, fun j hj => h4 j (by rw [List.length_take] at hj; omega)⟩
  unfold Lib.cut
  rw [h1, if_pos (by omega), Int.toNat_natCast, ← List.drop_drop, ← ht, List.drop_left]
theorem cut_at (a sep b : List UInt8) (h : ∀ j, j < a.length → Lib.occAt (a ++ (sep ++ b)) sep j = false) : Lib.cut (a ++ (sep ++ b)) sep = (a, b, true) := by
 have hi : Lib.index (a ++ (sep ++ b)) sep = (a.length : Nat) := by
  refine Lib.index_first (by rw [List.length_append]; omega) ?_ h
  unfold Lib.occAt
  rw [List.isPrefixOf_iff_prefix, List.drop_left]
  exact List.prefix_append _ _
 unfold Lib.cut
 rw [hi, if_pos (by omega), Int.toNat_natCast, List.take_left, ← List.drop_drop, List.drop_left, List.drop_left]
theorem occ_one (s : List UInt8) (c : UInt8) (j : Nat) (hj : j < s.length) : Lib.occAt s [c] j = (c == s[j]) := by
 unfold Lib.occAt
 rw [List.drop_eq_getElem_cons hj, List.isPrefixOf]
 simp
theorem cut_one (a b : List UInt8) (c : UInt8) (h : c ∉ a) : Lib.cut (a ++ (c :: b)) [c] = (a, b, true) := by
 refine cut_at a [c] b fun j hj => ?_
 rw [occ_one _ _ _ (by rw [List.length_append]; omega), beq_eq_false_iff_ne]
 intro e
 rw [List.getElem_append_left hj] at e
 exact h (e ▸ List.getElem_mem hj)
/-! Pieces. -/
theorem fieldsGo_sum (f : Nat) : ∀ cur l : List UInt8, ((Lib.fieldsGoD f cur l).map List.length).sum ≤ cur.length + l.length ∧ (∀ x ∈ Lib.fieldsGoD f cur l, x ≠ []) := by
 have one : ∀ cur l : List UInt8, ((if cur = [] then ([] : List (List UInt8)) else [cur]).map List.length).sum ≤ cur.length ∧ (∀ x ∈ (if cur = [] then ([] : List (List UInt8)) else [cur]), x ≠ []) := by
  intro cur l
  by_cases h : cur = []
  ·rw [if_pos h]; exact ⟨by simp, fun x hx => by cases hx⟩
  ·rw [if_neg h]; exact ⟨by simp, fun x hx => by rw [List.mem_singleton.1 hx]; exact h⟩
 induction f with
 | zero => intro cur l; obtain ⟨h1, h2⟩ := one cur l; exact ⟨Nat.le_trans h1 (by omega), h2⟩
 | succ f ih =>
  intro cur l
  rw [Lib.fieldsGoD]
  by_cases h : l = []
  ·rw [if_pos h]; obtain ⟨h1, h2⟩ := one cur l; exact ⟨Nat.le_trans h1 (by omega), h2⟩
  ·rw [if_neg h]
   by_cases hs : Lib.isSpaceR (Lib.decodeL l).1 = true
   ·rw [if_pos hs]
    obtain ⟨h1, h2⟩ := one cur l
    obtain ⟨h3, h4⟩ := ih [] (l.drop (Lib.decodeL l).2)
    refine ⟨?_, fun x hx => ?_⟩
    ·rw [List.map_append, List.sum_append]
     rw [List.length_nil, List.length_drop] at h3
     omega
    ·rcases List.mem_append.1 hx with hx | hx
     ·exact h2 x hx
     ·exact h4 x hx
   ·rw [if_neg hs]
    obtain ⟨h3, h4⟩ := ih (cur ++ l.take (Lib.decodeL l).2) (l.drop (Lib.decodeL l).2)
    refine ⟨?_, h4⟩
    rw [List.length_append, List.length_take, List.length_drop] at h3
    omega
theorem rep_len (l : List UInt8) : (replP l).length ≤ 3 * l.length := by
 induction l with
 | nil => simp [replP]
 | cons c l ih =>
  rw [show replP (c :: l) = rep1 c ++ replP l from rfl, List.length_append, List.length_cons]
  have : (rep1 c).length ≤ 3 := by
   unfold rep1
   split
   ·simp
   ·split <;> simp
  omega
theorem pieces_bytes (s : ByteArray) : bytesN (piecesP s) ≤ 3 * s.size ∧ (piecesP s).length ≤ 3 * s.size := by
 obtain ⟨h1, h2⟩ := fieldsGo_sum ((replP s.data.toList).length + 1) [] (replP s.data.toList)
 have h3 := rep_len s.data.toList
 rw [data_len] at h3
 have hb : ∀ l : List (List UInt8), bytesN (l.map fun l => (⟨l.toArray⟩ : ByteArray)) = (l.map List.length).sum := by
  intro l
  unfold bytesN
  rw [List.map_map]
  exact congrArg List.sum (List.map_congr_left fun x _ => mk_size x)
 have hc : ∀ l : List (List UInt8), (∀ x ∈ l, x ≠ []) → l.length ≤ (l.map List.length).sum := by
  intro l
  induction l with
  | nil => intro _; simp
  | cons x l ih =>
   intro h
   rw [List.length_cons, List.map_cons, List.sum_cons]
   have := ih fun y hy => h y (List.mem_cons_of_mem _ hy)
   have : 1 ≤ x.length := List.length_pos_iff.2 (h x List.mem_cons_self)
   omega
 unfold piecesP Lib.fieldsD
 rw [List.length_nil, Nat.zero_add] at h1
 have h4 := hc _ h2
 refine ⟨?_, ?_⟩
 ·rw [hb]; omega
 ·rw [List.length_map]; omega
theorem smallE_of (x : S33) : tsize x ≤ 1099511627776 → smallE x = true := by
 induction x using S33.ind with
 | h x ih =>
  intro h
  unfold smallE
  rw [allP_eq, Bool.and_eq_true, decide_eq_true_eq, List.all_eq_true]
  refine ⟨?_, fun y hy => ih y hy (by have := tsize_mem hy; omega)⟩
  have : ∀ l : List S33, l.length ≤ (l.map tsize).sum := by
   intro l
   induction l with
   | nil => simp
   | cons y l ih => rw [List.length_cons, List.map_cons, List.sum_cons]; have := tsize_pos y; omega
  have := this x.f3
  rw [tsize_eq] at h
  omega
/-- A parsed text: it is the expression's. -/
theorem parse_ev (s : ByteArray) (hs : s.size ≤ 10000000) : ∃ r : ByteArray × ByteArray × ByteArray × List S33 × Bool, Ev (fun k => rule_parse.f k s) r ∧
  (r.2.2.2.2 = true → textP ⟨r.1, r.2.1, r.2.2.1, r.2.2.2.1⟩ = s.data.toList ∧ smallE ⟨r.1, r.2.1, r.2.2.1, r.2.2.2.1⟩ = true ∧ allP formP ⟨r.1, r.2.1, r.2.2.1, r.2.2.2.1⟩ = true) := by
 obtain ⟨p1, p2⟩ := pieces_bytes s
 obtain ⟨r, hr, hf⟩ := expr_ev (3 * s.size + 1) (by omega) (piecesP s) true (by omega)
 by_cases ho : r.2.2.2.2.2 = true ∧ r.2.2.2.2.1 = []
 ·obtain ⟨g1, g2, g3⟩ := hf.good ho.1
  obtain ⟨c, hc, hcc⟩ := hf.cut
  obtain ⟨k1, k2, k3⟩ := hcc g2
  rw [ho.2, List.append_nil] at hc
  rw [← hc] at k1 k2 k3
  have hsm : smallE (exprOf r) = true := smallE_of _ (by omega)
  refine ⟨(r.1, r.2.1, r.2.2.1, r.2.2.2.1, (⟨(textP (exprOf r)).toArray⟩ : ByteArray).toList == s.toList), ?_, fun h => ?_⟩
  ·unfold rule_parse.f
   refine Ev.congr (fun k => if_pos (by omega)) ?_
   refine hr.bind ?_
   refine Ev.congr (fun k => (if_pos ho).trans (if_pos ⟨hsm, by show (textP (exprOf r)).length ≤ _; omega⟩)) (Ev.now _)
  ·have h : ((⟨(textP (exprOf r)).toArray⟩ : ByteArray).toList == s.toList) = true := h
   rw [beq_iff_eq, tl_data, tl_data] at h
   exact ⟨h, hsm, g3⟩
 ·refine ⟨(r.1, r.2.1, r.2.2.1, r.2.2.2.1, false), ?_, fun h => by cases h⟩
  unfold rule_parse.f
  refine Ev.congr (fun k => if_pos (by omega)) ?_
  exact hr.bind (Ev.congr (fun k => if_neg ho) (Ev.now _))
/-! Lines. -/
def Inv (l : List S30) : Prop := ∀ k ∈ l, ∀ r ∈ k.f1, smallE r.f1 = true ∧ allP formP r.f1 = true
theorem showL_append (a b : List S30) : showL (a ++ b) = showL a ++ showL b := List.flatMap_append
theorem rulesL_append (a b : List S35) : rulesL (a ++ b) = rulesL a ++ rulesL b := List.flatMap_append
theorem show_counts (l : List S30) : l.length ≤ (showL l).length ∧ ∀ k ∈ l, k.f1.length ≤ (showL l).length ∧ k.f0.size ≤ (showL l).length ∧ ∀ r ∈ k.f1, r.f0.size ≤ (showL l).length ∧ (textP r.f1).length ≤ (showL l).length := by
 have hr : ∀ rs : List S35, rs.length ≤ (rulesL rs).length ∧ ∀ r ∈ rs, r.f0.size ≤ (rulesL rs).length ∧ (textP r.f1).length ≤ (rulesL rs).length := by
  intro rs
  induction rs with
  | nil => exact ⟨by simp, fun r hr => by cases hr⟩
  | cons r rs ih =>
   have e : (rulesL (r :: rs)).length = r.f0.size + 3 + (textP r.f1).length + 1 + (rulesL rs).length := by
    rw [show rulesL (r :: rs) = ruleL r ++ rulesL rs from rfl, List.length_append]
    unfold ruleL
    simp only [List.length_append, List.length_cons, List.length_nil, data_len]
   refine ⟨by rw [List.length_cons]; omega, fun x hx => ?_⟩
   rcases List.mem_cons.1 hx with rfl | hx
   ·exact ⟨by omega, by omega⟩
   ·have := ih.2 x hx; exact ⟨by omega, by omega⟩
 induction l with
 | nil => exact ⟨by simp, fun k hk => by cases hk⟩
 | cons k l ih =>
  have e : (showL (k :: l)).length = 5 + k.f0.size + 1 + (rulesL k.f1).length + (showL l).length := by
   rw [show showL (k :: l) = (kindL k ++ rulesL k.f1) ++ showL l from rfl, List.length_append, List.length_append]
   unfold kindL
   simp only [List.length_append, List.length_cons, List.length_nil, data_len]
  refine ⟨by rw [List.length_cons]; omega, fun x hx => ?_⟩
  rcases List.mem_cons.1 hx with rfl | hx
  ·obtain ⟨h1, h2⟩ := hr x.f1
   exact ⟨by omega, by omega, fun r hr => by have := h2 r hr; exact ⟨by omega, by omega⟩⟩
  ·obtain ⟨h1, h2, h3⟩ := ih.2 x hx
   exact ⟨by omega, by omega, fun r hr => by have := h3 r hr; exact ⟨by omega, by omega⟩⟩
theorem smallK_of {l : List S30} (h : (showL l).length ≤ 1000000000) : smallK l = true := by
 obtain ⟨h1, h2⟩ := show_counts l
 unfold smallK
 rw [Bool.and_eq_true, decide_eq_true_eq, List.all_eq_true]
 exact ⟨by omega, fun k hk => by rw [decide_eq_true_eq]; have := (h2 k hk).1; omega⟩
theorem smallL_of {l : List S30} (hI : Inv l) (h : (showL l).length ≤ 1000000000) : smallL l = true := by
 obtain ⟨h1, h2⟩ := show_counts l
 unfold smallL
 rw [Bool.and_eq_true, decide_eq_true_eq, List.all_eq_true]
 refine ⟨by omega, fun k hk => ?_⟩
 rw [Bool.and_eq_true, decide_eq_true_eq, List.all_eq_true]
 exact ⟨by have := (h2 k hk).1; omega, fun r hr => (hI k hk r hr).1⟩
theorem kind_split {s : ByteArray} (h : isK s = true) : s.data.toList = [107, 105, 110, 100, 32] ++ (restK s).data.toList := by
 unfold isK Lib.hasPrefix at h
 have h2 := h
 rw [List.isPrefixOf_iff_prefix] at h
 obtain ⟨t, ht⟩ := h
 have e : (restK s).data.toList = t := by
  unfold restK Lib.trimPrefix Lib.hasPrefix
  rw [if_pos h2, ← ht, List.drop_left]
 rw [e, ← ht]
 rfl
theorem add_show (l : List S30) (r : S35) (hl : l ≠ []) : showL (addRule l r) = showL l ++ ruleL r := by
 unfold addRule
 rw [List.getLast?_eq_some_getLast hl]
 show showL (l.dropLast ++ [⟨(l.getLast hl).f0, (l.getLast hl).f1 ++ [r]⟩]) = _
 conv => rhs; rw [← List.dropLast_concat_getLast hl]
 rw [showL_append, showL_append, List.append_assoc]
 congr 1
 show (kindL _ ++ rulesL _) ++ [] = ((kindL _ ++ rulesL _) ++ []) ++ _
 rw [List.append_nil, List.append_nil, rulesL_append, List.append_assoc, show rulesL [r] = ruleL r ++ [] from rfl, List.append_nil]
 rfl
theorem add_inv (l : List S30) (r : S35) (hl : l ≠ []) (hI : Inv l) (hr : smallE r.f1 = true ∧ allP formP r.f1 = true) : Inv (addRule l r) := by
 unfold addRule
 rw [List.getLast?_eq_some_getLast hl]
 intro k hk x hx
 rcases List.mem_append.1 hk with hk | hk
 ·exact hI k (List.dropLast_subset _ hk) x hx
 ·have hk : k = ⟨(l.getLast hl).f0, (l.getLast hl).f1 ++ [r]⟩ := List.mem_singleton.1 hk
  rw [hk] at hx
  rcases List.mem_append.1 hx with hx | hx
  ·exact hI _ (List.getLast_mem hl) x hx
  ·rw [List.mem_singleton.1 hx]; exact hr
theorem line_ev (l : List S30) (s : ByteArray) (hs : s.size ≤ 10000000) (hl : (showL l).length ≤ 1000000000) (hI : Inv l) :
  ∃ r : List S30 × Bool, Ev (fun k => rule_line.f k l s) r ∧ (r.2 = true → Inv r.1 ∧ showL r.1 = showL l ++ (s.data.toList ++ [10])) := by
 have hg : s.size ≤ 1000000000 ∧ smallK l = true := ⟨by omega, smallK_of hl⟩
 by_cases hk : (isK s && wordP (restK s)) = true
 ·refine ⟨(l ++ [⟨restK s, []⟩], true), ?_, fun _ => ⟨fun k hk r hr => ?_, ?_⟩⟩
  ·unfold rule_line.f
   exact Ev.congr (fun k => (if_pos hg).trans (if_pos hk)) (Ev.now _)
  ·rcases List.mem_append.1 hk with hk | hk
   ·exact hI k hk r hr
   ·rw [List.mem_singleton.1 hk] at hr; cases hr
  ·rw [Bool.and_eq_true] at hk
   rw [showL_append, kind_split hk.1]
   congr 1
   show (kindL ⟨restK s, []⟩ ++ []) ++ [] = _
   rw [List.append_nil, List.append_nil]
   rfl
 ·have hz : (cutP s ⟨#[32, 61, 32]⟩).2.1.size ≤ 10000000 := by
   unfold cutP
   show (mk (Lib.cut s.data.toList [32, 61, 32]).2.1).size ≤ _
   rw [mk_size]
   cases h : (Lib.cut s.data.toList [32, 61, 32]).2.2 with
   | false => rw [cut_miss h]; simp
   | true =>
    obtain ⟨a, b, h1, h2, _⟩ := cut_split h
    rw [h2]
    have := data_len s
    rw [h1] at this
    simp only [List.length_append] at this
    show b.length ≤ _
    omega
  obtain ⟨r, hr, hp⟩ := parse_ev (cutP s ⟨#[32, 61, 32]⟩).2.1 hz
  by_cases hb : ((cutP s ⟨#[32, 61, 32]⟩).2.2 && r.2.2.2.2 && wordP (cutP s ⟨#[32, 61, 32]⟩).1 && !l.isEmpty) = true
  ·refine ⟨(addRule l ⟨(cutP s ⟨#[32, 61, 32]⟩).1, ⟨r.1, r.2.1, r.2.2.1, r.2.2.2.1⟩⟩, true), ?_, fun _ => ?_⟩
   ·unfold rule_line.f
    refine Ev.congr (fun k => (if_pos hg).trans (if_neg hk)) ?_
    exact hr.bind (Ev.congr (fun k => if_pos hb) (Ev.now _))
   ·simp only [Bool.and_eq_true, Bool.not_eq_true'] at hb
    obtain ⟨⟨⟨b1, b2⟩, b3⟩, b4⟩ := hb
    obtain ⟨t1, t2, t3⟩ := hp b2
    have hne : l ≠ [] := by intro e; rw [e] at b4; cases b4
    refine ⟨add_inv l _ hne hI ⟨t2, t3⟩, ?_⟩
    rw [add_show l _ hne]
    congr 1
    obtain ⟨a, b, h1, h2, _⟩ := cut_split (show (Lib.cut s.data.toList [32, 61, 32]).2.2 = true from b1)
    unfold ruleL
    have e1 : (cutP s ⟨#[32, 61, 32]⟩).1.data.toList = a := by
     show (mk (Lib.cut s.data.toList [32, 61, 32]).1).data.toList = a
     rw [h2, mk_data]
    have e2 : (cutP s ⟨#[32, 61, 32]⟩).2.1.data.toList = b := by
     show (mk (Lib.cut s.data.toList [32, 61, 32]).2.1).data.toList = b
     rw [h2, mk_data]
    rw [e2] at t1
    show (cutP s ⟨#[32, 61, 32]⟩).1.data.toList ++ [32, 61, 32] ++ textP ⟨r.1, r.2.1, r.2.2.1, r.2.2.2.1⟩ ++ [10] = _
    rw [t1, e1, h1]
    simp
  ·refine ⟨([], false), ?_, fun h => by cases h⟩
   unfold rule_line.f
   refine Ev.congr (fun k => (if_pos hg).trans (if_neg hk)) ?_
   exact hr.bind (Ev.congr (fun k => if_neg hb) (Ev.now _))
/-! Texts. -/
def Ev2 {α : Type} (g : Nat → Nat → Option α) (r : α) : Prop := ∃ K, ∀ kl, K ≤ kl → ∀ k, K ≤ k → g kl k = some r
theorem Ev2.step {α β : Type} {g f : Nat → Nat → Option α} {h : Nat → Option β} {b : β} {r : α} (hb : Ev h b) (hs : ∀ kl k, h kl = some b → g kl (k + 1) = f kl k) (k : Ev2 f r) : Ev2 g r := by
 obtain ⟨K1, hb⟩ := hb
 obtain ⟨K2, k⟩ := k
 refine ⟨max K1 K2 + 1, fun kl hkl n hn => ?_⟩
 obtain ⟨m, rfl⟩ : ∃ m, n = m + 1 := ⟨n - 1, by omega⟩
 rw [hs kl m (hb kl (by omega))]
 exact k kl (by omega) m (by omega)
theorem Ev2.now {α β : Type} {g : Nat → Nat → Option α} {h : Nat → Option β} {b : β} {r : α} (hb : Ev h b) (hs : ∀ kl k, h kl = some b → g kl (k + 1) = some r) : Ev2 g r :=
 Ev2.step (f := fun _ _ => some r) hb hs ⟨0, fun _ _ _ _ => rfl⟩
theorem Ev2.both {α : Type} {g : Nat → Nat → Option α} {r : α} (h : Ev2 g r) : Ev (fun k => g k k) r := by
 obtain ⟨K, h⟩ := h
 exact ⟨K, fun k hk => h k hk k hk⟩
def checkR (l : List S30) : List S30 × Int × Int := if checkP l = 0 then (l, 0, 0) else ([], 0, checkP l)
theorem read_nil (l : List S30) (n : Int) (hI : Inv l) (hl : (showL l).length ≤ 1000000000) : Ev2 (fun kl k => rule_Read.l0 kl k (mk []) l n) (checkR l) := by
 refine Ev2.now (Ev.now ()) fun kl k _ => ?_
 simp only [rule_Read.l0]
 rw [if_pos (by rw [tl_data]; rfl), show rule_Check.f l = some (checkP l) by unfold rule_Check.f; rw [if_pos (smallL_of hI hl)], Option.bind_some]
 unfold checkR
 by_cases h : checkP l = 0
 ·rw [if_pos h, if_pos h]
 ·rw [if_neg h, if_neg h]
/-- One line more, that is one. -/
theorem read_line (l l1 : List S30) (one rest : List UInt8) (n : Nat) (hn : n ≤ 1000000000) (h10 : (10 : UInt8) ∉ one) (hz : one.length + rest.length ≤ 900000000) (h : Ev (fun k => rule_line.f k l (mk one)) (l1, true)) (r : List S30 × Int × Int)
  (hr : Ev2 (fun kl k => rule_Read.l0 kl k (mk rest) l1 ((n + 1 : Nat) : Int)) r) : Ev2 (fun kl k => rule_Read.l0 kl k (mk (one ++ 10 :: rest)) l (n : Int)) r := by
 refine Ev2.step h (fun kl k hk => ?_) hr
 simp only [rule_Read.l0]
 have hc : strings_Cut.f (mk (one ++ 10 :: rest)) ⟨#[10]⟩ = some (mk one, mk rest, true) := by
  unfold strings_Cut.f
  rw [if_pos (by rw [mk_size, List.length_append, List.length_cons]; omega)]
  unfold cutP
  show some (mk (Lib.cut (mk (one ++ 10 :: rest)).data.toList [10]).1, mk (Lib.cut (mk (one ++ 10 :: rest)).data.toList [10]).2.1, (Lib.cut (mk (one ++ 10 :: rest)).data.toList [10]).2.2) = _
  rw [mk_data, cut_one one rest 10 h10]
 rw [if_neg (by rw [tl_data, mk_data]; simp), hc, Option.bind_some]
 show (if true = true then _ else _) = _
 rw [if_pos rfl]
 show (rule_line.f kl l (mk one)).bind _ = _
 rw [hk, Option.bind_some]
 show (if true = true then _ else _) = _
 rw [if_pos rfl, wrap_small (by omega) (by omega)]
 rfl
theorem read_bad (l : List S30) (one rest : List UInt8) (n : Int) (x : List S30) (h10 : (10 : UInt8) ∉ one) (hz : one.length + rest.length ≤ 900000000) (h : Ev (fun k => rule_line.f k l (mk one)) (x, false)) :
  Ev2 (fun kl k => rule_Read.l0 kl k (mk (one ++ 10 :: rest)) l n) ([], n, 120) := by
 refine Ev2.now h fun kl k hk => ?_
 simp only [rule_Read.l0]
 have hc : strings_Cut.f (mk (one ++ 10 :: rest)) ⟨#[10]⟩ = some (mk one, mk rest, true) := by
  unfold strings_Cut.f
  rw [if_pos (by rw [mk_size, List.length_append, List.length_cons]; omega)]
  unfold cutP
  show some (mk (Lib.cut (mk (one ++ 10 :: rest)).data.toList [10]).1, mk (Lib.cut (mk (one ++ 10 :: rest)).data.toList [10]).2.1, (Lib.cut (mk (one ++ 10 :: rest)).data.toList [10]).2.2) = _
  rw [mk_data, cut_one one rest 10 h10]
 rw [if_neg (by rw [tl_data, mk_data]; simp), hc, Option.bind_some]
 show (if true = true then _ else _) = _
 rw [if_pos rfl]
 show (rule_line.f kl l (mk one)).bind _ = _
 rw [hk, Option.bind_some]
 show (if false = true then _ else _) = _
 rw [if_neg (by decide)]
theorem read_torn (l : List S30) (s : List UInt8) (n : Int) (h0 : s ≠ []) (h10 : (10 : UInt8) ∉ s) (hz : s.length ≤ 900000000) : Ev2 (fun kl k => rule_Read.l0 kl k (mk s) l n) ([], n, 120) := by
 refine Ev2.now (Ev.now ()) fun kl k _ => ?_
 simp only [rule_Read.l0]
 have hc : strings_Cut.f (mk s) ⟨#[10]⟩ = some (mk s, mk [], false) := by
  unfold strings_Cut.f
  rw [if_pos (by rw [mk_size]; omega)]
  unfold cutP
  show some (mk (Lib.cut (mk s).data.toList [10]).1, mk (Lib.cut (mk s).data.toList [10]).2.1, (Lib.cut (mk s).data.toList [10]).2.2) = _
  rw [mk_data]
  cases h : (Lib.cut s [10]).2.2 with
  | false => rw [cut_miss h]
  | true =>
   obtain ⟨a, b, h1, _⟩ := cut_split h
   exact absurd (by rw [h1]; simp) h10
 rw [if_neg (by rw [tl_data, mk_data]; exact h0), hc, Option.bind_some]
 show (if false = true then _ else _) = _
 rw [if_neg (by decide)]
theorem first_line (s : List UInt8) (h : (10 : UInt8) ∈ s) : ∃ a b, s = a ++ 10 :: b ∧ (10 : UInt8) ∉ a := by
 induction s with
 | nil => cases h
 | cons c s ih =>
  by_cases hc : c = 10
  ·exact ⟨[], s, by rw [hc]; rfl, fun h => by cases h⟩
  ·obtain ⟨a, b, h1, h2⟩ := ih (by rcases List.mem_cons.1 h with h | h; exact absurd h.symm hc; exact h)
   exact ⟨c :: a, b, by rw [h1]; rfl, fun h => by rcases List.mem_cons.1 h with h | h; exact hc h.symm; exact h2 h⟩
/-- What reading a text comes to. -/
theorem read_l0 (m : Nat) : ∀ (s : List UInt8) (l : List S30) (n : Nat), s.length ≤ m → Inv l → (showL l).length + s.length ≤ 1000000 → n + s.length ≤ 1000000000 →
  (∃ l', Ev2 (fun kl k => rule_Read.l0 kl k (mk s) l (n : Int)) (checkR l') ∧ Inv l' ∧ showL l' = showL l ++ s) ∨
  (∃ a b, s = a ++ b ∧ b ≠ [] ∧ (a = [] ∨ ∃ a', a = a' ++ [10]) ∧ Ev2 (fun kl k => rule_Read.l0 kl k (mk s) l (n : Int)) ([], ((n + a.count 10 : Nat) : Int), 120) ∧
   ∃ l', Inv l' ∧ showL l' = showL l ++ a ∧ Ev2 (fun kl k => rule_Read.l0 kl k (mk a) l (n : Int)) (checkR l')) := by
 induction m with
 | zero =>
  intro s l n hs hI hz hn
  obtain rfl : s = [] := List.eq_nil_of_length_eq_zero (by omega)
  exact .inl ⟨l, read_nil l n hI (by omega), hI, by rw [List.append_nil]⟩
 | succ m ih =>
  intro s l n hs hI hz hn
  by_cases h0 : s = []
  ·subst h0
   exact .inl ⟨l, read_nil l n hI (by omega), hI, by rw [List.append_nil]⟩
  by_cases h10 : (10 : UInt8) ∈ s
  ·obtain ⟨one, rest, rfl, hno⟩ := first_line s h10
   rw [List.length_append, List.length_cons] at hs hz hn
   obtain ⟨r, hr, hgood⟩ := line_ev l (mk one) (by rw [mk_size]; omega) (by omega) hI
   obtain ⟨l1, b1⟩ := r
   cases b1 with
   | false => exact .inr ⟨[], one ++ 10 :: rest, rfl, by simp, .inl rfl, by simpa using read_bad l one rest n l1 hno (by omega) hr, l, hI, by rw [List.append_nil], read_nil l n hI (by omega)⟩
   | true =>
    obtain ⟨g1, g2⟩ := hgood rfl
    rw [mk_data] at g2
    have hlen : (showL l1).length = (showL l).length + (one.length + 1) := by rw [g2, List.length_append, List.length_append]; rfl
    rcases ih rest l1 (n + 1) (by omega) g1 (by omega) (by omega) with ⟨l', e1, e2, e3⟩ | ⟨a, b, c1, c2, c3, c4, l', c5, c6, c7⟩
    ·exact .inl ⟨l', read_line l l1 one rest n (by omega) hno (by omega) hr _ e1, e2, by rw [e3, g2]; simp⟩
    ·refine .inr ⟨one ++ 10 :: a, b, by rw [c1]; simp, c2, .inr ?_, ?_, l', c5, by rw [c6, g2]; simp, read_line l l1 one a n (by omega) hno (by rw [c1, List.length_append] at hz; omega) hr _ c7⟩
     ·rcases c3 with rfl | ⟨a', rfl⟩
      ·exact ⟨one, rfl⟩
      ·exact ⟨one ++ 10 :: a', by simp⟩
     ·have hc : (one ++ 10 :: a).count 10 = 1 + a.count 10 := by
       rw [List.count_append, List.count_eq_zero.2 hno, List.count_cons_self]; omega
      rw [hc, show n + (1 + a.count 10) = n + 1 + a.count 10 by omega]
      exact read_line l l1 one rest n (by omega) hno (by omega) hr _ c4
  ·exact .inr ⟨[], s, rfl, h0, .inl rfl, by simpa using read_torn l s n h0 h10 (by omega), l, hI, by rw [List.append_nil], read_nil l n hI (by omega)⟩
end Go.Proofs.YtjcipbdocbomjaaGreatDoor.K
namespace Go.Proofs.YtjcipbdocbomjaaGreatDoor.K
set_option linter.unusedVariables false
set_option linter.unusedSimpArgs false
open Go.RowKit Go.Proofs.YtjcipbdocbomjaaGreatDoorW.PrintWords Go.Proofs.YtjcipbdocbomjaaGreatDoorW.PrintLast Go.Proofs.YtjcipbdocbomjaaGreatDoorW.PrintMore
theorem part_text (l : List S33) (y : S33) (h : y ∈ l) : (textP y).length ≤ (partsP l).length := by
 induction l with
 | nil => cases h
 | cons z l ih =>
  rw [partsP_put, List.length_cons, List.length_append]
  rcases List.mem_cons.1 h with rfl | h
  ·omega
  ·have := ih h; omega
theorem size_nil {b : ByteArray} (h : b.toList = []) : b.size = 0 := by rw [tl_data] at h; rw [← data_len, h]; rfl
/-- Names in an expression that has a form are no longer than its text. -/
theorem sized_of (x : S33) : allP formP x = true → (textP x).length ≤ 1099511627776 → sizedE x = true := by
 induction x using S33.ind with
 | h x ih =>
  intro hf ht
  rw [allP_eq, Bool.and_eq_true, List.all_eq_true] at hf
  obtain ⟨h0, hp⟩ := hf
  have key : x.f1.size ≤ 1099511627776 ∧ ∀ y ∈ x.f3, (textP y).length ≤ 1099511627776 := by
   rw [textP_eq] at ht
   unfold formP at h0
   have none : x.f3.length = 0 → ∀ y ∈ x.f3, (textP y).length ≤ 1099511627776 := fun h y hy => by rw [List.eq_nil_of_length_eq_zero h] at hy; cases hy
   by_cases h1 : x.f0.toList = ([116, 104, 105, 115] : List UInt8)
   ·rw [if_pos h1] at h0
    simp only [Bool.and_eq_true, decide_eq_true_eq] at h0
    exact ⟨by rw [size_nil h0.1.1]; omega, none h0.2⟩
   rw [if_neg h1] at h0 ht
   by_cases h2 : x.f0.toList = ([114, 101, 108] : List UInt8)
   ·rw [if_pos h2] at h0 ht
    simp only [Bool.and_eq_true, decide_eq_true_eq] at h0
    rw [data_len] at ht
    exact ⟨ht, none h0.2⟩
   rw [if_neg h2] at h0 ht
   by_cases h3 : x.f0.toList = ([102, 114, 111, 109] : List UInt8)
   ·rw [if_pos h3] at h0 ht
    simp only [decide_eq_true_eq] at h0
    simp only [List.length_append, List.length_cons, List.length_nil, data_len] at ht
    exact ⟨by omega, none h0⟩
   rw [if_neg h3] at h0 ht
   simp only [List.length_append, List.length_cons, List.length_nil, data_len] at ht
   refine ⟨?_, fun y hy => by have := part_text _ y hy; omega⟩
   by_cases h4 : x.f0.toList = ([111, 114] : List UInt8) ∨ x.f0.toList = ([97, 110, 100] : List UInt8)
   ·rw [if_pos h4] at h0
    simp only [Bool.and_eq_true, decide_eq_true_eq] at h0
    rw [size_nil h0.1.1]; omega
   rw [if_neg h4] at h0
   by_cases h5 : x.f0.toList = ([98, 117, 116] : List UInt8)
   ·rw [if_pos h5] at h0
    simp only [Bool.and_eq_true, decide_eq_true_eq] at h0
    rw [size_nil h0.1.1]; omega
   ·rw [if_neg h5] at h0; cases h0
  unfold sizedE
  rw [allP_eq, Bool.and_eq_true, decide_eq_true_eq, List.all_eq_true]
  exact ⟨key.1, fun y hy => ih y hy (hp y hy) (key.2 y hy)⟩
theorem inv_ok {l : List S30} (hI : Inv l) (h : (showL l).length ≤ 1000000000) : l.length ≤ 1099511627776 ∧ ∀ k ∈ l, okK_ k := by
 obtain ⟨h1, h2⟩ := show_counts l
 refine ⟨by omega, fun k hk => ?_⟩
 obtain ⟨a, b, c⟩ := h2 k hk
 exact ⟨by omega, by omega, fun r hr => by have := c r hr; exact ⟨(hI k hk r hr).1, sized_of _ (hI k hk r hr).2 (by omega), by omega⟩⟩
theorem inv_form {l : List S30} (hI : Inv l) : checkP l ≠ 120 ∧ (checkP l = 0 ∨ checkP l = 122 ∨ checkP l = 121) := by
 have hf : eachP (fun _ r => allP formP r.f1) l = true := (eachP_iff _ _).2 fun k hk r hr => (hI k hk r hr).2
 unfold checkP
 rw [hf]
 cases (manyP l || !(eachP (fun _ r => notGreat r) l)) <;> cases (okKs l && eachP (fun k r => allP (namedP k) r.f1) l) <;> decide
theorem bt_data (s : ByteArray) (j : Nat) (h : j < s.size) : bt s (j : Int) = ((s.data.toList[j]'(by rw [data_len]; exact h)).toNat : Int) := by
 have : bt s (j : Int) = (s[j].toNat : Int) := by simp [bt, h]
 rw [this]; rfl
theorem byte_ten (b : UInt8) : ((b.toNat : Int) = 10) ↔ b = 10 := ⟨fun h => UInt8.toNat_inj.1 (by show _ = 10; omega), fun h => by rw [h]; rfl⟩
theorem count_take {a : List UInt8} {i : Nat} (h : i < a.length) : (a.take (i + 1)).count 10 = (a.take i).count 10 + (if a[i] = 10 then 1 else 0) := by
 rw [List.take_succ_eq_append_getElem h, List.count_append]
 congr 1
 by_cases e : a[i] = 10
 ·rw [if_pos e, e]; rfl
 ·rw [if_neg e, List.count_eq_zero]; intro hm; exact e (List.mem_singleton.1 hm).symm
end Go.Proofs.YtjcipbdocbomjaaGreatDoor.K
