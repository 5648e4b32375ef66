/- Texts of this claim's proof, put together: P6 QD HRf P7 P8 P9 P10; conditions: as each states. -/
import Derived.Test.YtjcipbdocbomjaaGreatDoorZA
import Derived.Test.YtjcipbdocbomjaaGreatDoorZ1
set_option linter.unusedVariables false
set_option linter.unusedSimpArgs false
namespace Go.Proofs.YtjcipbdocbomjaaGreatDoor.K
open Go.RowKit Go.Proofs.YtjcipbdocbomjaaGreatDoorW.PrintWords Go.Proofs.YtjcipbdocbomjaaGreatDoorW.PrintLast Go.Proofs.YtjcipbdocbomjaaGreatDoorW.PrintMore
attribute [local go_sem] max2_int min2_int max_two min_two max_three min_three max_four min_four   -- for this text's walks alone
set_option linter.unusedVariables false
set_option linter.unusedSimpArgs false
/-! ### lunetteref12_Deep: function 20 -/
mutual
def lunetteref12_Deep.l0 : Nat → Int → Int → ByteArray → ByteArray → ByteArray → List (S33) → Option (Int)
 | 0, _, _, _, _, _, _ => none
 | k + 1, x3, x4, x143000, x143001, x143002, x143003 => if x4 < (x143003.length : Int) then (if 0 ≤ x4 then ((lunetteref12_Deep.f k ((rd_T33 x143003 x4).f0) ((rd_T33 x143003 x4).f1) ((rd_T33 x143003 x4).f2) ((rd_T33 x143003 x4).f3)).bind fun t144 => (if t144 > x3 then (lunetteref12_Deep.l0 k t144 (wrap64 (x4 + 1)) x143000 x143001 x143002 x143003) else (lunetteref12_Deep.l0 k x3 (wrap64 (x4 + 1)) x143000 x143001 x143002 x143003))) else (none)) else (some (wrap64 (1 + x3)))
def lunetteref12_Deep.f : Nat → ByteArray → ByteArray → ByteArray → List (S33) → Option (Int)
 | 0, _, _, _, _ => none
 | k + 1, a0_0, a0_1, a0_2, l0_3 => lunetteref12_Deep.l0 k 0 0 a0_0 a0_1 a0_2 l0_3
end
set_option maxHeartbeats 8000000 in
set_option maxRecDepth 100000 in
theorem lunetteref12_Deep.calls (k : Nat) : ∀ (a0_0 : ByteArray) (a0_1 : ByteArray) (a0_2 : ByteArray) (A0_3 : Option Addr) (c0_3 : Nat) (l0_3 : List (S33)) (r : Int) (w : World) (hr0_3 : Kd.C k33 w A0_3 l0_3.length l0_3) (hc0_3 : l0_3.length ≤ c0_3) (h : lunetteref12_Deep.f k a0_0 a0_1 a0_2 l0_3 = some r),
  Calls Tryz.prog 20 #[.agg #[.string a0_0, .string a0_1, .string a0_2, .slice A0_3 l0_3.length c0_3]] w fun e w' => e = .returned (.int .i64 r) ∧ Below w.heap.size w w' := by
 induction k using Nat.strongRecOn with
 | _ k ih =>
 intro a0_0 a0_1 a0_2 A0_3 c0_3 l0_3 r w hr0_3 hc0_3 h
 cases k with
 | zero => exact absurd h (by simp [lunetteref12_Deep.f])
 | succ k =>
 simp only [lunetteref12_Deep.f] at h
 have hu33 := Tryz.underlying33
 have HR0_3 := Aside0.mk hr0_3
 have HC0_3 := Aside0.mk hc0_3
 clear hr0_3 hc0_3
 have HB := Aside0.mk (Below.refl w.heap.size w)
 have H : (lunetteref12_Deep.l0 k 0 0 a0_0 a0_1 a0_2 l0_3) = some r := h
 clear h
 have H' := Aside0.mk H
 clear H
 go_enter Tryz.func20, Tryz.ntmps20
 go_wp2_with (((with_reducible refine gate_dst (N := 1) rfl ?_); refine box_event ?hg (N := 1) ?hd (cs := #[.string a0_0, .string a0_1, .string a0_2, .slice A0_3 l0_3.length c0_3]) (t := 33) ?hr ?_; (case hd => rfl); (case hg => rfl); (case hr => (go_simp; done)); intro gb142 hg w2 hbox hb; have n0_ := Aside0.mk (below_step (by repeat ((with_reducible (exact HB.out)))) hb); have n1_ := Aside0.mk (hbox); have n2_ := Aside0.mk ((by rw [hg]; exact (below_size (by repeat ((with_reducible (exact HB.out))))) : w.heap.size ≤ gb142)); have n3_ := Aside0.mk ((by rw [hg]; exact (below_size (by repeat ((with_reducible (exact HB.out))))) : w.heap.size ≤ gb142)); clear HB; have HB := n0_; have BK142 := n1_; have GW142 := n2_; have GE142 := n3_; clear n0_ n1_ n2_ n3_; clear hb hbox hg))
 go_loopg [3, 4] k (fun kq v3 v4 w' => ∃ (x3_1 : Int) (x4_1 : Int), v3 = .int .i64 x3_1 ∧ v4 = .int .i64 x4_1 ∧ Aside0 (lunetteref12_Deep.l0 kq x3_1 x4_1 a0_0 a0_1 a0_2 l0_3 = some r) ∧ Aside0 (kq ≤ k) ∧ Aside0 (w'.heap[gb142]? = some (.cells #[.string a0_0, .string a0_1, .string a0_2, (.slice A0_3 l0_3.length c0_3)] 33 (0, 0))) ∧ Aside0 (Below w.heap.size w w'))
 case atStart => exact ⟨(0), (0), (by (rfl)), (by (rfl)), H', ⟨Nat.le_refl _⟩, ⟨by (with_reducible repeat ((refine blk_drew ?_))); exact BK142.out⟩, ⟨by repeat ((with_reducible (exact HB.out)))⟩⟩
 case round =>
  clear H'
  obtain ⟨x3_1, x4_1, rfl, rfl, HA, HK1, BK142, HB⟩ := hrel
  cases gk with
  | zero => exact absurd HA.out (by simp [lunetteref12_Deep.l0])
  | succ k1 =>
   have H := HA.out
   clear HA
   simp only [lunetteref12_Deep.l0] at H
   by_cases c3 : x4_1 < (l0_3.length : Int)
   ·rw [if_pos c3] at H
    have c3b0 : decide (x4_1 < (l0_3.length : Int)) = true := decide_eq_true c3
    clear c3
    by_cases c4 : 0 ≤ x4_1
    ·rw [if_pos c4] at H
     have c4b0 : decide (0 ≤ x4_1) = true := decide_eq_true c4
     clear c4
     replace H := Option.bind_eq_some_iff.mp H
     obtain ⟨t144, A50, H⟩ := H
     replace H : (if t144 > x3_1 then (lunetteref12_Deep.l0 k1 t144 (wrap64 (x4_1 + 1)) a0_0 a0_1 a0_2 l0_3) else (lunetteref12_Deep.l0 k1 x3_1 (wrap64 (x4_1 + 1)) a0_0 a0_1 a0_2 l0_3)) = some r := H
     have A5 := Aside0.mk A50
     clear A50
     by_cases c6 : t144 > x3_1
     ·rw [if_pos c6] at H
      have c6b0 : decide (x3_1 < t144) = true := decide_eq_true c6
      clear c6
      have H' := Aside0.mk H
      clear H
      have hcz7_0 : wr.cell? ⟨gb142, 0, none⟩ = some (.string a0_0) := (blk_cell BK142.out 0).trans rfl
      have hcz7_1 : wr.cell? ⟨gb142, 1, none⟩ = some (.string a0_1) := (blk_cell BK142.out 1).trans rfl
      have hcz7_2 : wr.cell? ⟨gb142, 2, none⟩ = some (.string a0_2) := (blk_cell BK142.out 2).trans rfl
      have hcz7_3 : wr.cell? ⟨gb142, 3, none⟩ = some (.slice A0_3 l0_3.length c0_3) := (blk_cell BK142.out 3).trans rfl
      have hfz7_0 := blk_frozen BK142.out 0
      have hfz7_1 := blk_frozen BK142.out 1
      have hfz7_2 := blk_frozen BK142.out 2
      have hfz7_3 := blk_frozen BK142.out 3
      have p143 : 0 ≤ (x4_1 : Int) := of_decide_eq_true (by (with_reducible assumption))
      have q143 : x4_1 < (l0_3.length : Int) := of_decide_eq_true (by (with_reducible assumption))
      obtain ⟨ad143, A143_3, c143_3, e143, hx143_0, hx143_1, hx143_2, hx143_3, hl143_3, hi143_3⟩ := at_T33 HR0_3.out x4_1 p143 q143
      cases e143
      replace hx143_0 := (HB.out.cell (World.block_lt_of_cell? w _ hx143_0)).trans hx143_0
      replace hx143_1 := (HB.out.cell (World.block_lt_of_cell? w _ hx143_1)).trans hx143_1
      replace hx143_2 := (HB.out.cell (World.block_lt_of_cell? w _ hx143_2)).trans hx143_2
      replace hx143_3 := (HB.out.cell (World.block_lt_of_cell? w _ hx143_3)).trans hx143_3
      have HR143_3 := Aside0.mk hi143_3
      have HC143_3 := Aside0.mk hl143_3
      clear hi143_3 hl143_3
      replace p143 := eq_true p143
      replace q143 := eq_true q143
      go_wp2_with (((with_reducible refine gate_callee (f := 20) rfl ?_); refine goesL_ (some 18) rfl rfl Tryz.func20 (by kernel_rfl) rfl #[.agg #[.string ((rd_T33 l0_3 x4_1).f0), .string ((rd_T33 l0_3 x4_1).f1), .string ((rd_T33 l0_3 x4_1).f2), .slice A143_3 ((rd_T33 l0_3 x4_1).f3).length c143_3]] rfl (by (try simp only [List.map_toArray, List.map_cons, List.map_nil]); (rfl)) ?_; (with_reducible refine (ih k1 (by have := HK1.out; omega) ((rd_T33 l0_3 x4_1).f0) ((rd_T33 l0_3 x4_1).f1) ((rd_T33 l0_3 x4_1).f2) _ _ ((rd_T33 l0_3 x4_1).f3) t144 _ ?side1 ?side2 A5.out).mono ?_); (case side1 => repeat ((exact (Kd.C_below HR143_3.out HB.out)))); (case side2 => exact HC143_3.out); rintro e w8 ⟨rfl, hb⟩; refine ⟨_, rfl, ?_⟩; have n0_ := Aside0.mk (blk_below (g := gb142) (o := .cells #[.string a0_0, .string a0_1, .string a0_2, .slice (some ad143) l0_3.length c0_3] 33 (0, 0)) (by (with_reducible repeat ((refine blk_drew ?_))); exact BK142.out) hb); have n1_ := Aside0.mk (below_step (by repeat ((with_reducible (exact HB.out)))) hb); clear BK142; clear HB; have BK142 := n0_; have HB := n1_; clear n0_ n1_; (try clear hb)))
      go_roundg k1
      case measure => have := HK1.out; omega
      case rel => exact ⟨(t144), (wrap64 (x4_1 + 1)), (by (rfl)), (by (rfl)), H', ⟨by have := HK1.out; omega⟩, ⟨by (with_reducible repeat ((refine blk_drew ?_))); exact BK142.out⟩, ⟨by repeat ((with_reducible (exact HB.out)))⟩⟩
     ·rw [if_neg c6] at H
      have c6b0 : decide (x3_1 < t144) = false := decide_eq_false c6
      clear c6
      have H' := Aside0.mk H
      clear H
      have hcz9_0 : wr.cell? ⟨gb142, 0, none⟩ = some (.string a0_0) := (blk_cell BK142.out 0).trans rfl
      have hcz9_1 : wr.cell? ⟨gb142, 1, none⟩ = some (.string a0_1) := (blk_cell BK142.out 1).trans rfl
      have hcz9_2 : wr.cell? ⟨gb142, 2, none⟩ = some (.string a0_2) := (blk_cell BK142.out 2).trans rfl
      have hcz9_3 : wr.cell? ⟨gb142, 3, none⟩ = some (.slice A0_3 l0_3.length c0_3) := (blk_cell BK142.out 3).trans rfl
      have hfz9_0 := blk_frozen BK142.out 0
      have hfz9_1 := blk_frozen BK142.out 1
      have hfz9_2 := blk_frozen BK142.out 2
      have hfz9_3 := blk_frozen BK142.out 3
      have p143 : 0 ≤ (x4_1 : Int) := of_decide_eq_true (by (with_reducible assumption))
      have q143 : x4_1 < (l0_3.length : Int) := of_decide_eq_true (by (with_reducible assumption))
      obtain ⟨ad143, A143_3, c143_3, e143, hx143_0, hx143_1, hx143_2, hx143_3, hl143_3, hi143_3⟩ := at_T33 HR0_3.out x4_1 p143 q143
      cases e143
      replace hx143_0 := (HB.out.cell (World.block_lt_of_cell? w _ hx143_0)).trans hx143_0
      replace hx143_1 := (HB.out.cell (World.block_lt_of_cell? w _ hx143_1)).trans hx143_1
      replace hx143_2 := (HB.out.cell (World.block_lt_of_cell? w _ hx143_2)).trans hx143_2
      replace hx143_3 := (HB.out.cell (World.block_lt_of_cell? w _ hx143_3)).trans hx143_3
      have HR143_3 := Aside0.mk hi143_3
      have HC143_3 := Aside0.mk hl143_3
      clear hi143_3 hl143_3
      replace p143 := eq_true p143
      replace q143 := eq_true q143
      go_wp2_with (((with_reducible refine gate_callee (f := 20) rfl ?_); refine goesL_ (some 18) rfl rfl Tryz.func20 (by kernel_rfl) rfl #[.agg #[.string ((rd_T33 l0_3 x4_1).f0), .string ((rd_T33 l0_3 x4_1).f1), .string ((rd_T33 l0_3 x4_1).f2), .slice A143_3 ((rd_T33 l0_3 x4_1).f3).length c143_3]] rfl (by (try simp only [List.map_toArray, List.map_cons, List.map_nil]); (rfl)) ?_; (with_reducible refine (ih k1 (by have := HK1.out; omega) ((rd_T33 l0_3 x4_1).f0) ((rd_T33 l0_3 x4_1).f1) ((rd_T33 l0_3 x4_1).f2) _ _ ((rd_T33 l0_3 x4_1).f3) t144 _ ?side1 ?side2 A5.out).mono ?_); (case side1 => repeat ((exact (Kd.C_below HR143_3.out HB.out)))); (case side2 => exact HC143_3.out); rintro e w10 ⟨rfl, hb⟩; refine ⟨_, rfl, ?_⟩; have n0_ := Aside0.mk (blk_below (g := gb142) (o := .cells #[.string a0_0, .string a0_1, .string a0_2, .slice (some ad143) l0_3.length c0_3] 33 (0, 0)) (by (with_reducible repeat ((refine blk_drew ?_))); exact BK142.out) hb); have n1_ := Aside0.mk (below_step (by repeat ((with_reducible (exact HB.out)))) hb); clear BK142; clear HB; have BK142 := n0_; have HB := n1_; clear n0_ n1_; (try clear hb)))
      go_roundg k1
      case measure => have := HK1.out; omega
      case rel => exact ⟨(x3_1), (wrap64 (x4_1 + 1)), (by (rfl)), (by (rfl)), H', ⟨by have := HK1.out; omega⟩, ⟨by (with_reducible repeat ((refine blk_drew ?_))); exact BK142.out⟩, ⟨by repeat ((with_reducible (exact HB.out)))⟩⟩
    ·rw [if_neg c4] at H
     exact absurd H (by simp)
   ·rw [if_neg c3] at H
    have c3b0 : decide (x4_1 < (l0_3.length : Int)) = false := decide_eq_false c3
    clear c3
    obtain rfl := Option.some.inj H
    have hcz11_0 : wr.cell? ⟨gb142, 0, none⟩ = some (.string a0_0) := (blk_cell BK142.out 0).trans rfl
    have hcz11_1 : wr.cell? ⟨gb142, 1, none⟩ = some (.string a0_1) := (blk_cell BK142.out 1).trans rfl
    have hcz11_2 : wr.cell? ⟨gb142, 2, none⟩ = some (.string a0_2) := (blk_cell BK142.out 2).trans rfl
    have hcz11_3 : wr.cell? ⟨gb142, 3, none⟩ = some (.slice A0_3 l0_3.length c0_3) := (blk_cell BK142.out 3).trans rfl
    have hfz11_0 := blk_frozen BK142.out 0
    have hfz11_1 := blk_frozen BK142.out 1
    have hfz11_2 := blk_frozen BK142.out 2
    have hfz11_3 := blk_frozen BK142.out 3
    go_wp2
    go_ret
    exact ⟨by (rfl), by repeat ((with_reducible (exact HB.out)))⟩
end Go.Proofs.YtjcipbdocbomjaaGreatDoor.K
namespace Go.Proofs.YtjcipbdocbomjaaGreatDoor.K
set_option linter.unusedVariables false
set_option linter.unusedSimpArgs false
open Go.RowKit Go.Proofs.YtjcipbdocbomjaaGreatDoorW.PrintWords Go.Proofs.YtjcipbdocbomjaaGreatDoorW.PrintLast Go.Proofs.YtjcipbdocbomjaaGreatDoorW.PrintMore
theorem refDeep_l0 (l : List S33) (a b c : ByteArray) (hl : l.length ≤ 1099511627776) (IH : ∀ y ∈ l, Ev (fun k => lunetteref12_Deep.f k y.f0 y.f1 y.f2 y.f3) (deepW y)) (m : Nat) :
  ∀ (i : Nat) (acc : Int), i + m = l.length → Ev (fun k => lunetteref12_Deep.l0 k acc (i : Int) a b c l) (wrap64 ((l.drop i).foldl (fun n y => mx n (deepW y)) acc + 1)) := by
 induction m with
 | zero =>
  intro i acc h
  rw [List.drop_eq_nil_of_le (by omega)]
  exact Ev.step (f := fun _ => some (wrap64 (1 + acc))) (fun k => by simp only [lunetteref12_Deep.l0]; rw [if_neg (by omega)]) (by rw [List.foldl_nil, Int.add_comm]; exact Ev.now _)
 | succ m ih =>
  intro i acc h
  have hi : i < l.length := by omega
  rw [List.drop_eq_getElem_cons hi, List.foldl_cons]
  refine Ev.step (f := fun k => (lunetteref12_Deep.f k l[i].f0 l[i].f1 l[i].f2 l[i].f3).bind fun t => lunetteref12_Deep.l0 k (mx acc t) ((i + 1 : Nat) : Int) a b c l) (fun k => ?_) ?_
  ·simp only [lunetteref12_Deep.l0]
   rw [if_pos (by omega), if_pos (by omega), rd33 hi, wrap_succ hi hl]
   congr 1
   funext t
   unfold mx
   by_cases ht : t > acc
   ·rw [if_pos ht, if_pos (by omega)]
   ·rw [if_neg ht, if_neg (by omega)]
  ·exact (IH _ (List.getElem_mem hi)).bind (ih (i + 1) _ (by omega))
theorem refDeep_ev (x : S33) : smallE x = true → Ev (fun k => lunetteref12_Deep.f k x.f0 x.f1 x.f2 x.f3) (deepW x) := by
 induction x using S33.ind with
 | h x ih =>
  intro hs
  rw [deepW_eq]
  exact Ev.step (f := fun k => lunetteref12_Deep.l0 k 0 ((0 : Nat) : Int) x.f0 x.f1 x.f2 x.f3) (fun k => by simp only [lunetteref12_Deep.f]; rfl)
   (refDeep_l0 x.f3 _ _ _ (smallE_len hs) (fun y hy => ih y hy (smallE_mem hs hy)) x.f3.length 0 0 (by omega))
end Go.Proofs.YtjcipbdocbomjaaGreatDoor.K
namespace Go.Proofs.YtjcipbdocbomjaaGreatDoor.K
open Go.RowKit Go.Proofs.YtjcipbdocbomjaaGreatDoorW.PrintWords Go.Proofs.YtjcipbdocbomjaaGreatDoorW.PrintLast Go.Proofs.YtjcipbdocbomjaaGreatDoorW.PrintMore
set_option linter.unusedVariables false
set_option linter.unusedSimpArgs false
def refOk (a0 a1 a2 : ByteArray) (n : Nat) : Bool := if a0.toList = ([116, 104, 105, 115] : List UInt8) then (if a1.toList = ([] : List UInt8) then (if a2.toList = ([] : List UInt8) then ((n : Int) == 0) else false) else false) else (if a0.toList = ([114, 101, 108] : List UInt8) then (if a2.toList = ([] : List UInt8) then ((n : Int) == 0) else false) else (if a0.toList = ([102, 114, 111, 109] : List UInt8) then ((n : Int) == 0) else (if a0.toList = ([111, 114] : List UInt8) then (if a1.toList = ([] : List UInt8) then (if a2.toList = ([] : List UInt8) then (decide ((n : Int) > 1)) else false) else false) else (if a0.toList = ([97, 110, 100] : List UInt8) then (if a1.toList = ([] : List UInt8) then (if a2.toList = ([] : List UInt8) then (decide ((n : Int) > 1)) else false) else false) else (if a0.toList = ([98, 117, 116] : List UInt8) then (if a1.toList = ([] : List UInt8) then (if a2.toList = ([] : List UInt8) then ((n : Int) == 2) else false) else false) else false)))))
mutual
def lunetteref12_form.l0 : Nat → Bool → Int → ByteArray → ByteArray → ByteArray → List (S33) → Option (Bool)
 | 0, _, _, _, _, _, _ => none
 | k + 1, x3, x4, x124000, x124001, x124002, x124003 => if x4 < (x124003.length : Int) then (if x3 = true then (if 0 ≤ x4 then ((lunetteref12_form.f k ((rd_T33 x124003 x4).f0) ((rd_T33 x124003 x4).f1) ((rd_T33 x124003 x4).f2) ((rd_T33 x124003 x4).f3)).bind fun t125 => (lunetteref12_form.l0 k t125 (wrap64 (x4 + 1)) x124000 x124001 x124002 x124003)) else (none)) else (lunetteref12_form.l0 k false (wrap64 (x4 + 1)) x124000 x124001 x124002 x124003)) else (some x3)
def lunetteref12_form.f : Nat → ByteArray → ByteArray → ByteArray → List (S33) → Option (Bool)
 | 0, _, _, _, _ => none
 | k + 1, a0_0, a0_1, a0_2, l0_3 => lunetteref12_form.l0 k (refOk a0_0 a0_1 a0_2 l0_3.length) 0 a0_0 a0_1 a0_2 l0_3
end
set_option maxHeartbeats 8000000 in
set_option maxRecDepth 100000 in
theorem lunetteref12_form.calls (k : Nat) : ∀ (a0_0 : ByteArray) (a0_1 : ByteArray) (a0_2 : ByteArray) (A0_3 : Option Addr) (c0_3 : Nat) (l0_3 : List (S33)) (r : Bool) (w : World) (hr0_3 : Kd.C k33 w A0_3 l0_3.length l0_3) (hc0_3 : l0_3.length ≤ c0_3) (h : lunetteref12_form.f k a0_0 a0_1 a0_2 l0_3 = some r),
  Calls Tryz.prog 32 #[.agg #[.string a0_0, .string a0_1, .string a0_2, .slice A0_3 l0_3.length c0_3]] w fun e w' => e = .returned (.bool r) ∧ Below w.heap.size w w' := by
 induction k using Nat.strongRecOn with
 | _ k ih =>
 intro a0_0 a0_1 a0_2 A0_3 c0_3 l0_3 r w hr0_3 hc0_3 h
 cases k with
 | zero => exact absurd h (by simp [lunetteref12_form.f])
 | succ k =>
 simp only [lunetteref12_form.f] at h
 have hu33 := Tryz.underlying33
 have HR0_3 := Aside0.mk hr0_3
 have HC0_3 := Aside0.mk hc0_3
 clear hr0_3 hc0_3
 have HB := Aside0.mk (Below.refl w.heap.size w)
 have H : (lunetteref12_form.l0 k (refOk a0_0 a0_1 a0_2 l0_3.length) 0 a0_0 a0_1 a0_2 l0_3) = some r := h
 clear h
 have H' := Aside0.mk H
 clear H
 go_enter Tryz.func32, Tryz.ntmps32
 obtain ⟨ok, hok⟩ : ∃ ok, refOk a0_0 a0_1 a0_2 l0_3.length = ok := ⟨_, rfl⟩
 rw [hok] at H'
 go_upto_block 0 with (((with_reducible refine gate_dst (N := 1) rfl ?_); refine box_event ?hg (N := 1) ?hd (cs := #[.string a0_0, .string a0_1, .string a0_2, .slice A0_3 l0_3.length c0_3]) (t := 33) ?hr ?_; (case hd => rfl); (case hg => rfl); (case hr => (go_simp; done)); intro gb123 hg w2 hbox hb; have n0_ := Aside0.mk (below_step (by repeat ((with_reducible (exact HB.out)))) hb); have n1_ := Aside0.mk (hbox); have n2_ := Aside0.mk ((by rw [hg]; exact (below_size (by repeat ((with_reducible (exact HB.out))))) : w.heap.size ≤ gb123)); have n3_ := Aside0.mk ((by rw [hg]; exact (below_size (by repeat ((with_reducible (exact HB.out))))) : w.heap.size ≤ gb123)); clear HB; have HB := n0_; have BK123 := n1_; have GW123 := n2_; have GE123 := n3_; clear n0_ n1_ n2_ n3_; clear hb hbox hg; have hcz0 : w2.cell? ⟨gb123, 0, none⟩ = some (.string a0_0) := (blk_cell BK123.out 0).trans rfl; have hcz1 : w2.cell? ⟨gb123, 1, none⟩ = some (.string a0_1) := (blk_cell BK123.out 1).trans rfl; have hcz2 : w2.cell? ⟨gb123, 2, none⟩ = some (.string a0_2) := (blk_cell BK123.out 2).trans rfl; have hcz3 : w2.cell? ⟨gb123, 3, none⟩ = some (.slice A0_3 l0_3.length c0_3) := (blk_cell BK123.out 3).trans rfl))
 go_cut [3] (fun v3 wc => v3 = .bool ok ∧ wc = w2)
 case first =>
  unfold refOk at hok
  by_cases e1 : a0_0.toList = ([116, 104, 105, 115] : List UInt8)
  ·rw [if_pos e1] at hok
   have e1b0 : (a0_0.toList == ([116, 104, 105, 115] : List UInt8)) = true := beq_iff_eq.mpr e1
   clear e1
   by_cases d1 : a0_1.toList = ([] : List UInt8)
   ·rw [if_pos d1] at hok
    have d1b0 : (a0_1.toList == ([] : List UInt8)) = true := beq_iff_eq.mpr d1
    clear d1
    by_cases d2 : a0_2.toList = ([] : List UInt8)
    ·rw [if_pos d2] at hok
     have d2b0 : (a0_2.toList == ([] : List UInt8)) = true := beq_iff_eq.mpr d2
     clear d2
     subst hok
     go_wp2_with fail
     go_meet
     case rel => exact ⟨rfl, rfl⟩
    ·rw [if_neg d2] at hok
     have d2b0 : (a0_2.toList == ([] : List UInt8)) = false := beq_eq_false_iff_ne.mpr d2
     clear d2
     subst hok
     go_wp2_with fail
     go_meet
     case rel => exact ⟨rfl, rfl⟩
   ·rw [if_neg d1] at hok
    have d1b0 : (a0_1.toList == ([] : List UInt8)) = false := beq_eq_false_iff_ne.mpr d1
    clear d1
    subst hok
    go_wp2_with fail
    go_meet
    case rel => exact ⟨rfl, rfl⟩
  ·rw [if_neg e1] at hok
   have e1b0 : (a0_0.toList == ([116, 104, 105, 115] : List UInt8)) = false := beq_eq_false_iff_ne.mpr e1
   clear e1
   by_cases e2 : a0_0.toList = ([114, 101, 108] : List UInt8)
   ·rw [if_pos e2] at hok
    have e2b0 : (a0_0.toList == ([114, 101, 108] : List UInt8)) = true := beq_iff_eq.mpr e2
    clear e2
    by_cases d2 : a0_2.toList = ([] : List UInt8)
    ·rw [if_pos d2] at hok
     have d2b0 : (a0_2.toList == ([] : List UInt8)) = true := beq_iff_eq.mpr d2
     clear d2
     subst hok
     go_wp2_with fail
     go_meet
     case rel => exact ⟨rfl, rfl⟩
    ·rw [if_neg d2] at hok
     have d2b0 : (a0_2.toList == ([] : List UInt8)) = false := beq_eq_false_iff_ne.mpr d2
     clear d2
     subst hok
     go_wp2_with fail
     go_meet
     case rel => exact ⟨rfl, rfl⟩
   ·rw [if_neg e2] at hok
    have e2b0 : (a0_0.toList == ([114, 101, 108] : List UInt8)) = false := beq_eq_false_iff_ne.mpr e2
    clear e2
    by_cases e3 : a0_0.toList = ([102, 114, 111, 109] : List UInt8)
    ·rw [if_pos e3] at hok
     have e3b0 : (a0_0.toList == ([102, 114, 111, 109] : List UInt8)) = true := beq_iff_eq.mpr e3
     clear e3
     subst hok
     go_wp2_with fail
     go_meet
     case rel => exact ⟨rfl, rfl⟩
    ·rw [if_neg e3] at hok
     have e3b0 : (a0_0.toList == ([102, 114, 111, 109] : List UInt8)) = false := beq_eq_false_iff_ne.mpr e3
     clear e3
     by_cases e4 : a0_0.toList = ([111, 114] : List UInt8)
     ·rw [if_pos e4] at hok
      have e4b0 : (a0_0.toList == ([111, 114] : List UInt8)) = true := beq_iff_eq.mpr e4
      clear e4
      by_cases d1 : a0_1.toList = ([] : List UInt8)
      ·rw [if_pos d1] at hok
       have d1b0 : (a0_1.toList == ([] : List UInt8)) = true := beq_iff_eq.mpr d1
       clear d1
       by_cases d2 : a0_2.toList = ([] : List UInt8)
       ·rw [if_pos d2] at hok
        have d2b0 : (a0_2.toList == ([] : List UInt8)) = true := beq_iff_eq.mpr d2
        clear d2
        subst hok
        go_wp2_with fail
        go_meet
        case rel => exact ⟨rfl, rfl⟩
       ·rw [if_neg d2] at hok
        have d2b0 : (a0_2.toList == ([] : List UInt8)) = false := beq_eq_false_iff_ne.mpr d2
        clear d2
        subst hok
        go_wp2_with fail
        go_meet
        case rel => exact ⟨rfl, rfl⟩
      ·rw [if_neg d1] at hok
       have d1b0 : (a0_1.toList == ([] : List UInt8)) = false := beq_eq_false_iff_ne.mpr d1
       clear d1
       subst hok
       go_wp2_with fail
       go_meet
       case rel => exact ⟨rfl, rfl⟩
     ·rw [if_neg e4] at hok
      have e4b0 : (a0_0.toList == ([111, 114] : List UInt8)) = false := beq_eq_false_iff_ne.mpr e4
      clear e4
      by_cases e5 : a0_0.toList = ([97, 110, 100] : List UInt8)
      ·rw [if_pos e5] at hok
       have e5b0 : (a0_0.toList == ([97, 110, 100] : List UInt8)) = true := beq_iff_eq.mpr e5
       clear e5
       by_cases d1 : a0_1.toList = ([] : List UInt8)
       ·rw [if_pos d1] at hok
        have d1b0 : (a0_1.toList == ([] : List UInt8)) = true := beq_iff_eq.mpr d1
        clear d1
        by_cases d2 : a0_2.toList = ([] : List UInt8)
        ·rw [if_pos d2] at hok
         have d2b0 : (a0_2.toList == ([] : List UInt8)) = true := beq_iff_eq.mpr d2
         clear d2
         subst hok
         go_wp2_with fail
         go_meet
         case rel => exact ⟨rfl, rfl⟩
        ·rw [if_neg d2] at hok
         have d2b0 : (a0_2.toList == ([] : List UInt8)) = false := beq_eq_false_iff_ne.mpr d2
         clear d2
         subst hok
         go_wp2_with fail
         go_meet
         case rel => exact ⟨rfl, rfl⟩
       ·rw [if_neg d1] at hok
        have d1b0 : (a0_1.toList == ([] : List UInt8)) = false := beq_eq_false_iff_ne.mpr d1
        clear d1
        subst hok
        go_wp2_with fail
        go_meet
        case rel => exact ⟨rfl, rfl⟩
      ·rw [if_neg e5] at hok
       have e5b0 : (a0_0.toList == ([97, 110, 100] : List UInt8)) = false := beq_eq_false_iff_ne.mpr e5
       clear e5
       by_cases e6 : a0_0.toList = ([98, 117, 116] : List UInt8)
       ·rw [if_pos e6] at hok
        have e6b0 : (a0_0.toList == ([98, 117, 116] : List UInt8)) = true := beq_iff_eq.mpr e6
        clear e6
        by_cases d1 : a0_1.toList = ([] : List UInt8)
        ·rw [if_pos d1] at hok
         have d1b0 : (a0_1.toList == ([] : List UInt8)) = true := beq_iff_eq.mpr d1
         clear d1
         by_cases d2 : a0_2.toList = ([] : List UInt8)
         ·rw [if_pos d2] at hok
          have d2b0 : (a0_2.toList == ([] : List UInt8)) = true := beq_iff_eq.mpr d2
          clear d2
          subst hok
          go_wp2_with fail
          go_meet
          case rel => exact ⟨rfl, rfl⟩
         ·rw [if_neg d2] at hok
          have d2b0 : (a0_2.toList == ([] : List UInt8)) = false := beq_eq_false_iff_ne.mpr d2
          clear d2
          subst hok
          go_wp2_with fail
          go_meet
          case rel => exact ⟨rfl, rfl⟩
        ·rw [if_neg d1] at hok
         have d1b0 : (a0_1.toList == ([] : List UInt8)) = false := beq_eq_false_iff_ne.mpr d1
         clear d1
         subst hok
         go_wp2_with fail
         go_meet
         case rel => exact ⟨rfl, rfl⟩
       ·rw [if_neg e6] at hok
        have e6b0 : (a0_0.toList == ([98, 117, 116] : List UInt8)) = false := beq_eq_false_iff_ne.mpr e6
        clear e6
        subst hok
        go_wp2_with fail
        go_meet
        case rel => exact ⟨rfl, rfl⟩
 case rest =>
 clear hok
 obtain ⟨rfl, rfl⟩ := hcut
 go_wp2_with fail
 go_loopg [3, 4] k (fun kq v3 v4 w' => ∃ (x3_1 : Bool) (x4_1 : Int), v3 = .bool x3_1 ∧ v4 = .int .i64 x4_1 ∧ Aside0 (lunetteref12_form.l0 kq x3_1 x4_1 a0_0 a0_1 a0_2 l0_3 = some r) ∧ Aside0 (kq ≤ k) ∧ Aside0 (w'.heap[gb123]? = some (.cells #[.string a0_0, .string a0_1, .string a0_2, (.slice A0_3 l0_3.length c0_3)] 33 (0, 0))) ∧ Aside0 (Below w.heap.size w w'))
 case atStart => exact ⟨ok, (0), (by (rfl)), (by (rfl)), H', ⟨Nat.le_refl _⟩, ⟨by (with_reducible repeat ((refine blk_drew ?_))); exact BK123.out⟩, ⟨by repeat ((with_reducible (exact HB.out)))⟩⟩
 case round =>
  clear H'
  obtain ⟨x3_1, x4_1, rfl, rfl, HA, HK1, BK123, HB⟩ := hrel
  cases gk with
  | zero => exact absurd HA.out (by simp [lunetteref12_form.l0])
  | succ k1 =>
   have H := HA.out
   clear HA
   simp only [lunetteref12_form.l0] at H
   by_cases c3 : x4_1 < (l0_3.length : Int)
   ·rw [if_pos c3] at H
    have c3b0 : decide (x4_1 < (l0_3.length : Int)) = true := decide_eq_true c3
    clear c3
    cases x3_1 with
    | true =>
     rw [if_pos rfl] at H
     by_cases c4 : 0 ≤ x4_1
     ·rw [if_pos c4] at H
      have c4b0 : decide (0 ≤ x4_1) = true := decide_eq_true c4
      clear c4
      replace H := Option.bind_eq_some_iff.mp H
      obtain ⟨t125, A50, H⟩ := H
      replace H : (lunetteref12_form.l0 k1 t125 (wrap64 (x4_1 + 1)) a0_0 a0_1 a0_2 l0_3) = some r := H
      have A5 := Aside0.mk A50
      clear A50
      have H' := Aside0.mk H
      clear H
      have hcz6_0 : wr.cell? ⟨gb123, 0, none⟩ = some (.string a0_0) := (blk_cell BK123.out 0).trans rfl
      have hcz6_1 : wr.cell? ⟨gb123, 1, none⟩ = some (.string a0_1) := (blk_cell BK123.out 1).trans rfl
      have hcz6_2 : wr.cell? ⟨gb123, 2, none⟩ = some (.string a0_2) := (blk_cell BK123.out 2).trans rfl
      have hcz6_3 : wr.cell? ⟨gb123, 3, none⟩ = some (.slice A0_3 l0_3.length c0_3) := (blk_cell BK123.out 3).trans rfl
      have hfz6_0 := blk_frozen BK123.out 0
      have hfz6_1 := blk_frozen BK123.out 1
      have hfz6_2 := blk_frozen BK123.out 2
      have hfz6_3 := blk_frozen BK123.out 3
      have p124 : 0 ≤ (x4_1 : Int) := of_decide_eq_true (by (with_reducible assumption))
      have q124 : x4_1 < (l0_3.length : Int) := of_decide_eq_true (by (with_reducible assumption))
      obtain ⟨ad124, A124_3, c124_3, e124, hx124_0, hx124_1, hx124_2, hx124_3, hl124_3, hi124_3⟩ := at_T33 HR0_3.out x4_1 p124 q124
      cases e124
      replace hx124_0 := (HB.out.cell (World.block_lt_of_cell? w _ hx124_0)).trans hx124_0
      replace hx124_1 := (HB.out.cell (World.block_lt_of_cell? w _ hx124_1)).trans hx124_1
      replace hx124_2 := (HB.out.cell (World.block_lt_of_cell? w _ hx124_2)).trans hx124_2
      replace hx124_3 := (HB.out.cell (World.block_lt_of_cell? w _ hx124_3)).trans hx124_3
      have HR124_3 := Aside0.mk hi124_3
      have HC124_3 := Aside0.mk hl124_3
      clear hi124_3 hl124_3
      replace p124 := eq_true p124
      replace q124 := eq_true q124
      go_wp2_with ((go_at_call 32; (with_reducible refine (ih k1 (by have := HK1.out; omega) ((rd_T33 l0_3 x4_1).f0) ((rd_T33 l0_3 x4_1).f1) ((rd_T33 l0_3 x4_1).f2) _ _ ((rd_T33 l0_3 x4_1).f3) t125 _ ?side1 ?side2 A5.out).mono ?_); (case side1 => repeat ((exact (Kd.C_below HR124_3.out HB.out)))); (case side2 => exact HC124_3.out); rintro e w7 ⟨rfl, hb⟩; have n0_ := Aside0.mk (blk_below (g := gb123) (o := .cells #[.string a0_0, .string a0_1, .string a0_2, .slice (some ad124) l0_3.length c0_3] 33 (0, 0)) (by (with_reducible repeat ((refine blk_drew ?_))); exact BK123.out) hb); have n1_ := Aside0.mk (below_step (by repeat ((with_reducible (exact HB.out)))) hb); clear BK123; clear HB; have BK123 := n0_; have HB := n1_; clear n0_ n1_; (try clear hb)))
      go_roundg k1
      case measure => have := HK1.out; omega
      case rel => exact ⟨t125, (wrap64 (x4_1 + 1)), (by (rfl)), (by (rfl)), H', ⟨by have := HK1.out; omega⟩, ⟨by (with_reducible repeat ((refine blk_drew ?_))); exact BK123.out⟩, ⟨by repeat ((with_reducible (exact HB.out)))⟩⟩
     ·rw [if_neg c4] at H
      exact absurd H (by simp)
    | false =>
     rw [if_neg (show ¬ (false = true) by decide)] at H
     have H' := Aside0.mk H
     clear H
     have hcz6_3 : wr.cell? ⟨gb123, 3, none⟩ = some (.slice A0_3 l0_3.length c0_3) := (blk_cell BK123.out 3).trans rfl
     go_wp2_with fail
     go_roundg k1
     case measure => have := HK1.out; omega
     case rel => exact ⟨false, (wrap64 (x4_1 + 1)), (by (rfl)), (by (rfl)), H', ⟨by have := HK1.out; omega⟩, ⟨by (with_reducible repeat ((refine blk_drew ?_))); exact BK123.out⟩, ⟨by repeat ((with_reducible (exact HB.out)))⟩⟩
   ·rw [if_neg c3] at H
    have c3b0 : decide (x4_1 < (l0_3.length : Int)) = false := decide_eq_false c3
    clear c3
    obtain rfl := Option.some.inj H
    have hcz8_0 : wr.cell? ⟨gb123, 0, none⟩ = some (.string a0_0) := (blk_cell BK123.out 0).trans rfl
    have hcz8_1 : wr.cell? ⟨gb123, 1, none⟩ = some (.string a0_1) := (blk_cell BK123.out 1).trans rfl
    have hcz8_2 : wr.cell? ⟨gb123, 2, none⟩ = some (.string a0_2) := (blk_cell BK123.out 2).trans rfl
    have hcz8_3 : wr.cell? ⟨gb123, 3, none⟩ = some (.slice A0_3 l0_3.length c0_3) := (blk_cell BK123.out 3).trans rfl
    have hfz8_0 := blk_frozen BK123.out 0
    have hfz8_1 := blk_frozen BK123.out 1
    have hfz8_2 := blk_frozen BK123.out 2
    have hfz8_3 := blk_frozen BK123.out 3
    go_wp2
    go_ret
    exact ⟨by (rfl), by repeat ((with_reducible (exact HB.out)))⟩
end Go.Proofs.YtjcipbdocbomjaaGreatDoor.K
namespace Go.Proofs.YtjcipbdocbomjaaGreatDoor.K
open Go.RowKit Go.Proofs.YtjcipbdocbomjaaGreatDoorW.PrintWords Go.Proofs.YtjcipbdocbomjaaGreatDoorW.PrintLast Go.Proofs.YtjcipbdocbomjaaGreatDoorW.PrintMore
attribute [local go_sem] max2_int min2_int max_two min_two max_three min_three max_four min_four   -- for this text's walks alone
set_option linter.unusedVariables false
set_option linter.unusedSimpArgs false
/-! ### lunetteref11_Name: function 55 -/
def lunetteref11_Name.l0 : Nat → ByteArray → Int → Option (Bool)
 | 0, _, _ => none
 | k + 1, x0, x3 => if x3 < (x0.size : Int) then (if 0 ≤ x3 then (if (bt x0 x3) ≥ 97 then (if ((bt x0 x3) ≤ 122) then (lunetteref11_Name.l0 k x0 (wrap64 (x3 + 1))) else (if x3 > 0 then (if (bt x0 x3) ≥ 48 then (if (bt x0 x3) ≤ 57 then (lunetteref11_Name.l0 k x0 (wrap64 (x3 + 1))) else (if ((bt x0 x3) = 95) then (lunetteref11_Name.l0 k x0 (wrap64 (x3 + 1))) else (some false))) else (if ((bt x0 x3) = 95) then (lunetteref11_Name.l0 k x0 (wrap64 (x3 + 1))) else (some false))) else (some false))) else (if x3 > 0 then (if (bt x0 x3) ≥ 48 then (if (bt x0 x3) ≤ 57 then (lunetteref11_Name.l0 k x0 (wrap64 (x3 + 1))) else (if ((bt x0 x3) = 95) then (lunetteref11_Name.l0 k x0 (wrap64 (x3 + 1))) else (some false))) else (if ((bt x0 x3) = 95) then (lunetteref11_Name.l0 k x0 (wrap64 (x3 + 1))) else (some false))) else (some false))) else (none)) else (if (x0.size : Int) ≥ 1 then (some (decide ((x0.size : Int) ≤ 12))) else (some false))
def lunetteref11_Name.f (k : Nat) (a0 : ByteArray) : Option (Bool) := lunetteref11_Name.l0 k a0 0
set_option maxHeartbeats 8000000 in
set_option maxRecDepth 100000 in
theorem lunetteref11_Name.calls (k : Nat) (a0 : ByteArray) (r : Bool) (w : World) (h : lunetteref11_Name.f k a0 = some r) :
  Calls Tryz.prog 55 #[.string a0] w fun e w' => e = .returned (.bool r) ∧ Drawn0 w w' := by
 have H : (lunetteref11_Name.l0 k a0 0) = some r := h
 clear h
 have H' := Aside0.mk H
 clear H
 go_enter Tryz.func55, Tryz.ntmps55
 go_wp2
 go_loopg [3] k (fun kq v3 w' => ∃ (x3_1 : Int), v3 = .int .i64 x3_1 ∧ Aside0 (lunetteref11_Name.l0 kq a0 x3_1 = some r) ∧ Aside0 (kq ≤ k) ∧ Drawn0 w w')
 case atStart => exact ⟨(0), (by (rfl)), H', ⟨Nat.le_refl _⟩, by repeat ((exact Drawn0.refl _))⟩
 case round =>
  clear H'
  obtain ⟨x3_1, rfl, HA, HK1, ⟨m1, rfl⟩⟩ := hrel
  cases gk with
  | zero => exact absurd HA.out (by simp [lunetteref11_Name.l0])
  | succ k1 =>
   have H := HA.out
   clear HA
   simp only [lunetteref11_Name.l0] at H
   by_cases c2 : x3_1 < (a0.size : Int)
   ·rw [if_pos c2] at H
    have c2b0 : decide (x3_1 < (a0.size : Int)) = true := decide_eq_true c2
    clear c2
    by_cases c3 : 0 ≤ x3_1
    ·rw [if_pos c3] at H
     have c3b0 : decide (0 ≤ x3_1) = true := decide_eq_true c3
     clear c3
     by_cases c5 : (bt a0 x3_1) ≥ 97
     ·rw [if_pos c5] at H
      have c5b0 : decide (97 ≤ (bt a0 x3_1)) = true := decide_eq_true c5
      clear c5
      by_cases c6 : ((bt a0 x3_1) ≤ 122)
      ·rw [if_pos c6] at H
       have c6b0 : decide ((bt a0 x3_1) ≤ 122) = true := decide_eq_true c6
       clear c6
       have H' := Aside0.mk H
       clear H
       have p4 : 0 ≤ (x3_1 : Int) := of_decide_eq_true (by (with_reducible assumption))
       have q4 : x3_1 < (a0.size : Int) := of_decide_eq_true (by (with_reducible assumption))
       have hx4 := bt_at a0 x3_1
       replace p4 := eq_true p4
       replace q4 := eq_true q4
       go_wp2
       go_roundg k1
       case measure => have := HK1.out; omega
       case rel => exact ⟨(wrap64 (x3_1 + 1)), (by (rfl)), H', ⟨by have := HK1.out; omega⟩, by repeat (first | exact Drawn0.refl _ | apply Drawn0.step)⟩
      ·rw [if_neg c6] at H
       have c6b0 : decide ((bt a0 x3_1) ≤ 122) = false := decide_eq_false c6
       clear c6
       by_cases c7 : x3_1 > 0
       ·rw [if_pos c7] at H
        have c7b0 : decide (0 < x3_1) = true := decide_eq_true c7
        clear c7
        by_cases c8 : (bt a0 x3_1) ≥ 48
        ·rw [if_pos c8] at H
         have c8b0 : decide (48 ≤ (bt a0 x3_1)) = true := decide_eq_true c8
         clear c8
         by_cases c9 : (bt a0 x3_1) ≤ 57
         ·rw [if_pos c9] at H
          have c9b0 : decide ((bt a0 x3_1) ≤ 57) = true := decide_eq_true c9
          clear c9
          have H' := Aside0.mk H
          clear H
          have p4 : 0 ≤ (x3_1 : Int) := of_decide_eq_true (by (with_reducible assumption))
          have q4 : x3_1 < (a0.size : Int) := of_decide_eq_true (by (with_reducible assumption))
          have hx4 := bt_at a0 x3_1
          replace p4 := eq_true p4
          replace q4 := eq_true q4
          go_wp2
          go_roundg k1
          case measure => have := HK1.out; omega
          case rel => exact ⟨(wrap64 (x3_1 + 1)), (by (rfl)), H', ⟨by have := HK1.out; omega⟩, by repeat (first | exact Drawn0.refl _ | apply Drawn0.step)⟩
         ·rw [if_neg c9] at H
          have c9b0 : decide ((bt a0 x3_1) ≤ 57) = false := decide_eq_false c9
          clear c9
          by_cases c10 : ((bt a0 x3_1) = 95)
          ·rw [if_pos c10] at H
           have c10b0 : ((bt a0 x3_1) == 95) = true := beq_iff_eq.mpr c10
           have c10b1 : ((bt a0 x3_1) != 95) = false := bne_eq_false_iff_eq.mpr c10
           clear c10
           have H' := Aside0.mk H
           clear H
           have p4 : 0 ≤ (x3_1 : Int) := of_decide_eq_true (by (with_reducible assumption))
           have q4 : x3_1 < (a0.size : Int) := of_decide_eq_true (by (with_reducible assumption))
           have hx4 := bt_at a0 x3_1
           replace p4 := eq_true p4
           replace q4 := eq_true q4
           go_wp2
           go_roundg k1
           case measure => have := HK1.out; omega
           case rel => exact ⟨(wrap64 (x3_1 + 1)), (by (rfl)), H', ⟨by have := HK1.out; omega⟩, by repeat (first | exact Drawn0.refl _ | apply Drawn0.step)⟩
          ·rw [if_neg c10] at H
           have c10b0 : ((bt a0 x3_1) == 95) = false := beq_eq_false_iff_ne.mpr c10
           have c10b1 : ((bt a0 x3_1) != 95) = true := bne_iff_ne.mpr c10
           obtain rfl := Option.some.inj H
           have p4 : 0 ≤ (x3_1 : Int) := of_decide_eq_true (by (with_reducible assumption))
           have q4 : x3_1 < (a0.size : Int) := of_decide_eq_true (by (with_reducible assumption))
           have hx4 := bt_at a0 x3_1
           replace p4 := eq_true p4
           replace q4 := eq_true q4
           go_wp2
           go_ret
           exact ⟨by (rfl), by repeat (first | exact Drawn0.refl _ | apply Drawn0.step)⟩
        ·rw [if_neg c8] at H
         have c8b0 : decide (48 ≤ (bt a0 x3_1)) = false := decide_eq_false c8
         clear c8
         by_cases c11 : ((bt a0 x3_1) = 95)
         ·rw [if_pos c11] at H
          have c11b0 : ((bt a0 x3_1) == 95) = true := beq_iff_eq.mpr c11
          have c11b1 : ((bt a0 x3_1) != 95) = false := bne_eq_false_iff_eq.mpr c11
          clear c11
          have H' := Aside0.mk H
          clear H
          have p4 : 0 ≤ (x3_1 : Int) := of_decide_eq_true (by (with_reducible assumption))
          have q4 : x3_1 < (a0.size : Int) := of_decide_eq_true (by (with_reducible assumption))
          have hx4 := bt_at a0 x3_1
          replace p4 := eq_true p4
          replace q4 := eq_true q4
          go_wp2
          go_roundg k1
          case measure => have := HK1.out; omega
          case rel => exact ⟨(wrap64 (x3_1 + 1)), (by (rfl)), H', ⟨by have := HK1.out; omega⟩, by repeat (first | exact Drawn0.refl _ | apply Drawn0.step)⟩
         ·rw [if_neg c11] at H
          have c11b0 : ((bt a0 x3_1) == 95) = false := beq_eq_false_iff_ne.mpr c11
          have c11b1 : ((bt a0 x3_1) != 95) = true := bne_iff_ne.mpr c11
          obtain rfl := Option.some.inj H
          have p4 : 0 ≤ (x3_1 : Int) := of_decide_eq_true (by (with_reducible assumption))
          have q4 : x3_1 < (a0.size : Int) := of_decide_eq_true (by (with_reducible assumption))
          have hx4 := bt_at a0 x3_1
          replace p4 := eq_true p4
          replace q4 := eq_true q4
          go_wp2
          go_ret
          exact ⟨by (rfl), by repeat (first | exact Drawn0.refl _ | apply Drawn0.step)⟩
       ·rw [if_neg c7] at H
        have c7b0 : decide (0 < x3_1) = false := decide_eq_false c7
        clear c7
        obtain rfl := Option.some.inj H
        have p4 : 0 ≤ (x3_1 : Int) := of_decide_eq_true (by (with_reducible assumption))
        have q4 : x3_1 < (a0.size : Int) := of_decide_eq_true (by (with_reducible assumption))
        have hx4 := bt_at a0 x3_1
        replace p4 := eq_true p4
        replace q4 := eq_true q4
        go_wp2
        go_ret
        exact ⟨by (rfl), by repeat (first | exact Drawn0.refl _ | apply Drawn0.step)⟩
     ·rw [if_neg c5] at H
      have c5b0 : decide (97 ≤ (bt a0 x3_1)) = false := decide_eq_false c5
      clear c5
      by_cases c12 : x3_1 > 0
      ·rw [if_pos c12] at H
       have c12b0 : decide (0 < x3_1) = true := decide_eq_true c12
       clear c12
       by_cases c13 : (bt a0 x3_1) ≥ 48
       ·rw [if_pos c13] at H
        have c13b0 : decide (48 ≤ (bt a0 x3_1)) = true := decide_eq_true c13
        clear c13
        by_cases c14 : (bt a0 x3_1) ≤ 57
        ·rw [if_pos c14] at H
         have c14b0 : decide ((bt a0 x3_1) ≤ 57) = true := decide_eq_true c14
         clear c14
         have H' := Aside0.mk H
         clear H
         have p4 : 0 ≤ (x3_1 : Int) := of_decide_eq_true (by (with_reducible assumption))
         have q4 : x3_1 < (a0.size : Int) := of_decide_eq_true (by (with_reducible assumption))
         have hx4 := bt_at a0 x3_1
         replace p4 := eq_true p4
         replace q4 := eq_true q4
         go_wp2
         go_roundg k1
         case measure => have := HK1.out; omega
         case rel => exact ⟨(wrap64 (x3_1 + 1)), (by (rfl)), H', ⟨by have := HK1.out; omega⟩, by repeat (first | exact Drawn0.refl _ | apply Drawn0.step)⟩
        ·rw [if_neg c14] at H
         have c14b0 : decide ((bt a0 x3_1) ≤ 57) = false := decide_eq_false c14
         clear c14
         by_cases c15 : ((bt a0 x3_1) = 95)
         ·rw [if_pos c15] at H
          have c15b0 : ((bt a0 x3_1) == 95) = true := beq_iff_eq.mpr c15
          have c15b1 : ((bt a0 x3_1) != 95) = false := bne_eq_false_iff_eq.mpr c15
          clear c15
          have H' := Aside0.mk H
          clear H
          have p4 : 0 ≤ (x3_1 : Int) := of_decide_eq_true (by (with_reducible assumption))
          have q4 : x3_1 < (a0.size : Int) := of_decide_eq_true (by (with_reducible assumption))
          have hx4 := bt_at a0 x3_1
          replace p4 := eq_true p4
          replace q4 := eq_true q4
          go_wp2
          go_roundg k1
          case measure => have := HK1.out; omega
          case rel => exact ⟨(wrap64 (x3_1 + 1)), (by (rfl)), H', ⟨by have := HK1.out; omega⟩, by repeat (first | exact Drawn0.refl _ | apply Drawn0.step)⟩
         ·rw [if_neg c15] at H
          have c15b0 : ((bt a0 x3_1) == 95) = false := beq_eq_false_iff_ne.mpr c15
          have c15b1 : ((bt a0 x3_1) != 95) = true := bne_iff_ne.mpr c15
          obtain rfl := Option.some.inj H
          have p4 : 0 ≤ (x3_1 : Int) := of_decide_eq_true (by (with_reducible assumption))
          have q4 : x3_1 < (a0.size : Int) := of_decide_eq_true (by (with_reducible assumption))
          have hx4 := bt_at a0 x3_1
          replace p4 := eq_true p4
          replace q4 := eq_true q4
          go_wp2
          go_ret
          exact ⟨by (rfl), by repeat (first | exact Drawn0.refl _ | apply Drawn0.step)⟩
       ·rw [if_neg c13] at H
        have c13b0 : decide (48 ≤ (bt a0 x3_1)) = false := decide_eq_false c13
        clear c13
        by_cases c16 : ((bt a0 x3_1) = 95)
        ·rw [if_pos c16] at H
         have c16b0 : ((bt a0 x3_1) == 95) = true := beq_iff_eq.mpr c16
         have c16b1 : ((bt a0 x3_1) != 95) = false := bne_eq_false_iff_eq.mpr c16
         clear c16
         have H' := Aside0.mk H
         clear H
         have p4 : 0 ≤ (x3_1 : Int) := of_decide_eq_true (by (with_reducible assumption))
         have q4 : x3_1 < (a0.size : Int) := of_decide_eq_true (by (with_reducible assumption))
         have hx4 := bt_at a0 x3_1
         replace p4 := eq_true p4
         replace q4 := eq_true q4
         go_wp2
         go_roundg k1
         case measure => have := HK1.out; omega
         case rel => exact ⟨(wrap64 (x3_1 + 1)), (by (rfl)), H', ⟨by have := HK1.out; omega⟩, by repeat (first | exact Drawn0.refl _ | apply Drawn0.step)⟩
        ·rw [if_neg c16] at H
         have c16b0 : ((bt a0 x3_1) == 95) = false := beq_eq_false_iff_ne.mpr c16
         have c16b1 : ((bt a0 x3_1) != 95) = true := bne_iff_ne.mpr c16
         obtain rfl := Option.some.inj H
         have p4 : 0 ≤ (x3_1 : Int) := of_decide_eq_true (by (with_reducible assumption))
         have q4 : x3_1 < (a0.size : Int) := of_decide_eq_true (by (with_reducible assumption))
         have hx4 := bt_at a0 x3_1
         replace p4 := eq_true p4
         replace q4 := eq_true q4
         go_wp2
         go_ret
         exact ⟨by (rfl), by repeat (first | exact Drawn0.refl _ | apply Drawn0.step)⟩
      ·rw [if_neg c12] at H
       have c12b0 : decide (0 < x3_1) = false := decide_eq_false c12
       clear c12
       obtain rfl := Option.some.inj H
       have p4 : 0 ≤ (x3_1 : Int) := of_decide_eq_true (by (with_reducible assumption))
       have q4 : x3_1 < (a0.size : Int) := of_decide_eq_true (by (with_reducible assumption))
       have hx4 := bt_at a0 x3_1
       replace p4 := eq_true p4
       replace q4 := eq_true q4
       go_wp2
       go_ret
       exact ⟨by (rfl), by repeat (first | exact Drawn0.refl _ | apply Drawn0.step)⟩
    ·rw [if_neg c3] at H
     exact absurd H (by simp)
   ·rw [if_neg c2] at H
    have c2b0 : decide (x3_1 < (a0.size : Int)) = false := decide_eq_false c2
    clear c2
    by_cases c17 : (a0.size : Int) ≥ 1
    ·rw [if_pos c17] at H
     have c17b0 : decide (1 ≤ (a0.size : Int)) = true := decide_eq_true c17
     have c17b1 : decide (1 ≤ a0.size) = true := decide_eq_true (by omega)
     clear c17
     obtain rfl := Option.some.inj H
     go_wp2
     go_ret
     exact ⟨by (rfl), by repeat (first | exact Drawn0.refl _ | apply Drawn0.step)⟩
    ·rw [if_neg c17] at H
     have c17b0 : decide (1 ≤ (a0.size : Int)) = false := decide_eq_false c17
     have c17b1 : decide (1 ≤ a0.size) = false := decide_eq_false (by omega)
     clear c17
     obtain rfl := Option.some.inj H
     go_wp2
     go_ret
     exact ⟨by (rfl), by repeat (first | exact Drawn0.refl _ | apply Drawn0.step)⟩
end Go.Proofs.YtjcipbdocbomjaaGreatDoor.K
namespace Go.Proofs.YtjcipbdocbomjaaGreatDoor.K
open Go.RowKit Go.Proofs.YtjcipbdocbomjaaGreatDoorW.PrintWords Go.Proofs.YtjcipbdocbomjaaGreatDoorW.PrintLast Go.Proofs.YtjcipbdocbomjaaGreatDoorW.PrintMore
attribute [local go_sem] max2_int min2_int max_two min_two max_three min_three max_four min_four   -- for this text's walks alone
set_option linter.unusedVariables false
set_option linter.unusedSimpArgs false
/-! ### lunetteref12_Name: function 31 -/
def lunetteref12_Name.f (k : Nat) (a0 : ByteArray) : Option (Bool) := (lunetteref11_Name.f k a0).bind fun t145 => (if t145 = true then (if a0.toList = ([116, 104, 105, 115] : List UInt8) then (some false) else (if a0.toList = ([111, 114] : List UInt8) then (some false) else (if a0.toList = ([97, 110, 100] : List UInt8) then (some false) else (if a0.toList = ([98, 117, 116] : List UInt8) then (some false) else (if a0.toList = ([102, 114, 111, 109] : List UInt8) then (some false) else (some (a0.toList != ([107, 105, 110, 100] : List UInt8)))))))) else (some false))
set_option maxHeartbeats 8000000 in
set_option maxRecDepth 100000 in
theorem lunetteref12_Name.calls (k : Nat) (a0 : ByteArray) (r : Bool) (w : World) (h : lunetteref12_Name.f k a0 = some r) :
  Calls Tryz.prog 31 #[.string a0] w fun e w' => e = .returned (.bool r) ∧ Drawn0 w w' := by
 have H : ((lunetteref11_Name.f k a0).bind fun t145 => (if t145 = true then (if a0.toList = ([116, 104, 105, 115] : List UInt8) then (some false) else (if a0.toList = ([111, 114] : List UInt8) then (some false) else (if a0.toList = ([97, 110, 100] : List UInt8) then (some false) else (if a0.toList = ([98, 117, 116] : List UInt8) then (some false) else (if a0.toList = ([102, 114, 111, 109] : List UInt8) then (some false) else (some (a0.toList != ([107, 105, 110, 100] : List UInt8)))))))) else (some false))) = some r := h
 clear h
 replace H := Option.bind_eq_some_iff.mp H
 obtain ⟨t145, A20, H⟩ := H
 replace H : (if t145 = true then (if a0.toList = ([116, 104, 105, 115] : List UInt8) then (some false) else (if a0.toList = ([111, 114] : List UInt8) then (some false) else (if a0.toList = ([97, 110, 100] : List UInt8) then (some false) else (if a0.toList = ([98, 117, 116] : List UInt8) then (some false) else (if a0.toList = ([102, 114, 111, 109] : List UInt8) then (some false) else (some (a0.toList != ([107, 105, 110, 100] : List UInt8)))))))) else (some false)) = some r := H
 have A2 := Aside0.mk A20
 clear A20
 by_cases c3 : t145 = true
 ·subst c3
  have H1 : (if a0.toList = ([116, 104, 105, 115] : List UInt8) then (some false) else (if a0.toList = ([111, 114] : List UInt8) then (some false) else (if a0.toList = ([97, 110, 100] : List UInt8) then (some false) else (if a0.toList = ([98, 117, 116] : List UInt8) then (some false) else (if a0.toList = ([102, 114, 111, 109] : List UInt8) then (some false) else (some (a0.toList != ([107, 105, 110, 100] : List UInt8)))))))) = some r := by rw [if_pos rfl] at H; exact H
  clear H
  have H := H1
  clear H1
  by_cases c4 : a0.toList = ([116, 104, 105, 115] : List UInt8)
  ·rw [if_pos c4] at H
   have c4b0 : (a0.toList == ([116, 104, 105, 115] : List UInt8)) = true := beq_iff_eq.mpr c4
   have c4b1 : (a0.toList != ([116, 104, 105, 115] : List UInt8)) = false := bne_eq_false_iff_eq.mpr c4
   clear c4
   obtain rfl := Option.some.inj H
   go_enter Tryz.func31, Tryz.ntmps31
   go_wp2_with (((with_reducible refine gate_callee (f := 55) rfl ?_); refine goesL_ (some 4) rfl rfl Tryz.func55 (by kernel_rfl) rfl #[.string a0] rfl (by (try simp only [List.map_toArray, List.map_cons, List.map_nil]); (rfl)) ?_; (with_reducible refine (lunetteref11_Name.calls k a0 true _ A2.out).mono ?_); rintro e w' ⟨rfl, ⟨nd, rfl⟩⟩; refine ⟨_, rfl, ?_⟩))
   go_ret
   exact ⟨by (rfl), by repeat (first | exact Drawn0.refl _ | apply Drawn0.step)⟩
  ·rw [if_neg c4] at H
   have c4b0 : (a0.toList == ([116, 104, 105, 115] : List UInt8)) = false := beq_eq_false_iff_ne.mpr c4
   have c4b1 : (a0.toList != ([116, 104, 105, 115] : List UInt8)) = true := bne_iff_ne.mpr c4
   by_cases c5 : a0.toList = ([111, 114] : List UInt8)
   ·rw [if_pos c5] at H
    have c5b0 : (a0.toList == ([111, 114] : List UInt8)) = true := beq_iff_eq.mpr c5
    have c5b1 : (a0.toList != ([111, 114] : List UInt8)) = false := bne_eq_false_iff_eq.mpr c5
    clear c5
    obtain rfl := Option.some.inj H
    go_enter Tryz.func31, Tryz.ntmps31
    go_wp2_with (((with_reducible refine gate_callee (f := 55) rfl ?_); refine goesL_ (some 4) rfl rfl Tryz.func55 (by kernel_rfl) rfl #[.string a0] rfl (by (try simp only [List.map_toArray, List.map_cons, List.map_nil]); (rfl)) ?_; (with_reducible refine (lunetteref11_Name.calls k a0 true _ A2.out).mono ?_); rintro e w' ⟨rfl, ⟨nd, rfl⟩⟩; refine ⟨_, rfl, ?_⟩))
    go_ret
    exact ⟨by (rfl), by repeat (first | exact Drawn0.refl _ | apply Drawn0.step)⟩
   ·rw [if_neg c5] at H
    have c5b0 : (a0.toList == ([111, 114] : List UInt8)) = false := beq_eq_false_iff_ne.mpr c5
    have c5b1 : (a0.toList != ([111, 114] : List UInt8)) = true := bne_iff_ne.mpr c5
    by_cases c6 : a0.toList = ([97, 110, 100] : List UInt8)
    ·rw [if_pos c6] at H
     have c6b0 : (a0.toList == ([97, 110, 100] : List UInt8)) = true := beq_iff_eq.mpr c6
     have c6b1 : (a0.toList != ([97, 110, 100] : List UInt8)) = false := bne_eq_false_iff_eq.mpr c6
     clear c6
     obtain rfl := Option.some.inj H
     go_enter Tryz.func31, Tryz.ntmps31
     go_wp2_with (((with_reducible refine gate_callee (f := 55) rfl ?_); refine goesL_ (some 4) rfl rfl Tryz.func55 (by kernel_rfl) rfl #[.string a0] rfl (by (try simp only [List.map_toArray, List.map_cons, List.map_nil]); (rfl)) ?_; (with_reducible refine (lunetteref11_Name.calls k a0 true _ A2.out).mono ?_); rintro e w' ⟨rfl, ⟨nd, rfl⟩⟩; refine ⟨_, rfl, ?_⟩))
     go_ret
     exact ⟨by (rfl), by repeat (first | exact Drawn0.refl _ | apply Drawn0.step)⟩
    ·rw [if_neg c6] at H
     have c6b0 : (a0.toList == ([97, 110, 100] : List UInt8)) = false := beq_eq_false_iff_ne.mpr c6
     have c6b1 : (a0.toList != ([97, 110, 100] : List UInt8)) = true := bne_iff_ne.mpr c6
     by_cases c7 : a0.toList = ([98, 117, 116] : List UInt8)
     ·rw [if_pos c7] at H
      have c7b0 : (a0.toList == ([98, 117, 116] : List UInt8)) = true := beq_iff_eq.mpr c7
      have c7b1 : (a0.toList != ([98, 117, 116] : List UInt8)) = false := bne_eq_false_iff_eq.mpr c7
      clear c7
      obtain rfl := Option.some.inj H
      go_enter Tryz.func31, Tryz.ntmps31
      go_wp2_with (((with_reducible refine gate_callee (f := 55) rfl ?_); refine goesL_ (some 4) rfl rfl Tryz.func55 (by kernel_rfl) rfl #[.string a0] rfl (by (try simp only [List.map_toArray, List.map_cons, List.map_nil]); (rfl)) ?_; (with_reducible refine (lunetteref11_Name.calls k a0 true _ A2.out).mono ?_); rintro e w' ⟨rfl, ⟨nd, rfl⟩⟩; refine ⟨_, rfl, ?_⟩))
      go_ret
      exact ⟨by (rfl), by repeat (first | exact Drawn0.refl _ | apply Drawn0.step)⟩
     ·rw [if_neg c7] at H
      have c7b0 : (a0.toList == ([98, 117, 116] : List UInt8)) = false := beq_eq_false_iff_ne.mpr c7
      have c7b1 : (a0.toList != ([98, 117, 116] : List UInt8)) = true := bne_iff_ne.mpr c7
      by_cases c8 : a0.toList = ([102, 114, 111, 109] : List UInt8)
      ·rw [if_pos c8] at H
       have c8b0 : (a0.toList == ([102, 114, 111, 109] : List UInt8)) = true := beq_iff_eq.mpr c8
       have c8b1 : (a0.toList != ([102, 114, 111, 109] : List UInt8)) = false := bne_eq_false_iff_eq.mpr c8
       clear c8
       obtain rfl := Option.some.inj H
       go_enter Tryz.func31, Tryz.ntmps31
       go_wp2_with (((with_reducible refine gate_callee (f := 55) rfl ?_); refine goesL_ (some 4) rfl rfl Tryz.func55 (by kernel_rfl) rfl #[.string a0] rfl (by (try simp only [List.map_toArray, List.map_cons, List.map_nil]); (rfl)) ?_; (with_reducible refine (lunetteref11_Name.calls k a0 true _ A2.out).mono ?_); rintro e w' ⟨rfl, ⟨nd, rfl⟩⟩; refine ⟨_, rfl, ?_⟩))
       go_ret
       exact ⟨by (rfl), by repeat (first | exact Drawn0.refl _ | apply Drawn0.step)⟩
      ·rw [if_neg c8] at H
       have c8b0 : (a0.toList == ([102, 114, 111, 109] : List UInt8)) = false := beq_eq_false_iff_ne.mpr c8
       have c8b1 : (a0.toList != ([102, 114, 111, 109] : List UInt8)) = true := bne_iff_ne.mpr c8
       obtain rfl := Option.some.inj H
       go_enter Tryz.func31, Tryz.ntmps31
       go_wp2_with (((with_reducible refine gate_callee (f := 55) rfl ?_); refine goesL_ (some 4) rfl rfl Tryz.func55 (by kernel_rfl) rfl #[.string a0] rfl (by (try simp only [List.map_toArray, List.map_cons, List.map_nil]); (rfl)) ?_; (with_reducible refine (lunetteref11_Name.calls k a0 true _ A2.out).mono ?_); rintro e w' ⟨rfl, ⟨nd, rfl⟩⟩; refine ⟨_, rfl, ?_⟩))
       go_ret
       exact ⟨by (rfl), by repeat (first | exact Drawn0.refl _ | apply Drawn0.step)⟩
 ·replace c3 := Bool.eq_false_iff.mpr c3
  subst c3
  have H1 : (some false) = some r := by rw [if_neg (show ¬ (false = true) by decide)] at H; exact H
  clear H
  have H := H1
  clear H1
  obtain rfl := Option.some.inj H
  go_enter Tryz.func31, Tryz.ntmps31
  go_wp2_with (((with_reducible refine gate_callee (f := 55) rfl ?_); refine goesL_ (some 4) rfl rfl Tryz.func55 (by kernel_rfl) rfl #[.string a0] rfl (by (try simp only [List.map_toArray, List.map_cons, List.map_nil]); (rfl)) ?_; (with_reducible refine (lunetteref11_Name.calls k a0 false _ A2.out).mono ?_); rintro e w' ⟨rfl, ⟨nd, rfl⟩⟩; refine ⟨_, rfl, ?_⟩))
  go_ret
  exact ⟨by (rfl), by repeat (first | exact Drawn0.refl _ | apply Drawn0.step)⟩
end Go.Proofs.YtjcipbdocbomjaaGreatDoor.K
namespace Go.Proofs.YtjcipbdocbomjaaGreatDoor.K
open Go.RowKit Go.Proofs.YtjcipbdocbomjaaGreatDoorW.PrintWords Go.Proofs.YtjcipbdocbomjaaGreatDoorW.PrintLast Go.Proofs.YtjcipbdocbomjaaGreatDoorW.PrintMore
attribute [local go_sem] max2_int min2_int max_two min_two max_three min_three max_four min_four   -- for this text's walks alone
set_option linter.unusedVariables false
set_option linter.unusedSimpArgs false
/-! ### lunetteref12_has: function 56 -/
def lunetteref12_has.l0 : Nat → ByteArray → Int → ByteArray → List (S35) → Option (Bool)
 | 0, _, _, _, _ => none
 | k + 1, x1, x5, x147000, x147001 => if x5 < (x147001.length : Int) then (if 0 ≤ x5 then (if ((rd_T35 x147001 x5).f0).toList = x1.toList then (some true) else (lunetteref12_has.l0 k x1 (wrap64 (x5 + 1)) x147000 x147001)) else (none)) else (some false)
def lunetteref12_has.f (k : Nat) (a0_0 : ByteArray) (l0_1 : List (S35)) (a1 : ByteArray) : Option (Bool) := lunetteref12_has.l0 k a1 0 a0_0 l0_1
set_option maxHeartbeats 8000000 in
set_option maxRecDepth 100000 in
theorem lunetteref12_has.calls (k : Nat) (a0_0 : ByteArray) (A0_1 : Option Addr) (c0_1 : Nat) (l0_1 : List (S35)) (a1 : ByteArray) (r : Bool) (w : World) (hr0_1 : Kd.C k35 w A0_1 l0_1.length l0_1) (hc0_1 : l0_1.length ≤ c0_1) (h : lunetteref12_has.f k a0_0 l0_1 a1 = some r) :
  Calls Tryz.prog 56 #[.agg #[.string a0_0, .slice A0_1 l0_1.length c0_1], .string a1] w fun e w' => e = .returned (.bool r) ∧ Below w.heap.size w w' := by
 have hu30 := Tryz.underlying30
 have HR0_1 := Aside0.mk hr0_1
 have HC0_1 := Aside0.mk hc0_1
 clear hr0_1 hc0_1
 have HB := Aside0.mk (Below.refl w.heap.size w)
 have H : (lunetteref12_has.l0 k a1 0 a0_0 l0_1) = some r := h
 clear h
 have H' := Aside0.mk H
 clear H
 go_enter Tryz.func56, Tryz.ntmps56
 go_wp2_with (((with_reducible refine gate_dst (N := 2) rfl ?_); refine box_event ?hg (N := 2) ?hd (cs := #[.string a0_0, .slice A0_1 l0_1.length c0_1]) (t := 30) ?hr ?_; (case hd => rfl); (case hg => rfl); (case hr => (go_simp; done)); intro gb146 hg w3 hbox hb; have n0_ := Aside0.mk (below_step (by repeat ((with_reducible (exact HB.out)))) hb); have n1_ := Aside0.mk (hbox); have n2_ := Aside0.mk ((by rw [hg]; exact (below_size (by repeat ((with_reducible (exact HB.out))))) : w.heap.size ≤ gb146)); have n3_ := Aside0.mk ((by rw [hg]; exact (below_size (by repeat ((with_reducible (exact HB.out))))) : w.heap.size ≤ gb146)); clear HB; have HB := n0_; have BK146 := n1_; have GW146 := n2_; have GE146 := n3_; clear n0_ n1_ n2_ n3_; clear hb hbox hg))
 go_loopg [5] k (fun kq v5 w' => ∃ (x5_1 : Int), v5 = .int .i64 x5_1 ∧ Aside0 (lunetteref12_has.l0 kq a1 x5_1 a0_0 l0_1 = some r) ∧ Aside0 (kq ≤ k) ∧ Aside0 (w'.heap[gb146]? = some (.cells #[.string a0_0, (.slice A0_1 l0_1.length c0_1)] 30 (0, 0))) ∧ Aside0 (Below w.heap.size w w'))
 case atStart => exact ⟨(0), (by (rfl)), H', ⟨Nat.le_refl _⟩, ⟨by (with_reducible repeat ((refine blk_drew ?_))); exact BK146.out⟩, ⟨by repeat ((with_reducible (exact HB.out)))⟩⟩
 case round =>
  clear H'
  obtain ⟨x5_1, rfl, HA, HK1, BK146, HB⟩ := hrel
  cases gk with
  | zero => exact absurd HA.out (by simp [lunetteref12_has.l0])
  | succ k1 =>
   have H := HA.out
   clear HA
   simp only [lunetteref12_has.l0] at H
   by_cases c4 : x5_1 < (l0_1.length : Int)
   ·rw [if_pos c4] at H
    have c4b0 : decide (x5_1 < (l0_1.length : Int)) = true := decide_eq_true c4
    clear c4
    by_cases c5 : 0 ≤ x5_1
    ·rw [if_pos c5] at H
     have c5b0 : decide (0 ≤ x5_1) = true := decide_eq_true c5
     clear c5
     by_cases c6 : ((rd_T35 l0_1 x5_1).f0).toList = a1.toList
     ·rw [if_pos c6] at H
      have c6b0 : (((rd_T35 l0_1 x5_1).f0).toList == a1.toList) = true := beq_iff_eq.mpr c6
      have c6b1 : (((rd_T35 l0_1 x5_1).f0).toList != a1.toList) = false := bne_eq_false_iff_eq.mpr c6
      clear c6
      obtain rfl := Option.some.inj H
      have hcz7_0 : wr.cell? ⟨gb146, 0, none⟩ = some (.string a0_0) := (blk_cell BK146.out 0).trans rfl
      have hcz7_1 : wr.cell? ⟨gb146, 1, none⟩ = some (.slice A0_1 l0_1.length c0_1) := (blk_cell BK146.out 1).trans rfl
      have hfz7_0 := blk_frozen BK146.out 0
      have hfz7_1 := blk_frozen BK146.out 1
      have p147 : 0 ≤ (x5_1 : Int) := of_decide_eq_true (by (with_reducible assumption))
      have q147 : x5_1 < (l0_1.length : Int) := of_decide_eq_true (by (with_reducible assumption))
      obtain ⟨ad147, A147_4, c147_4, e147, hx147_0, hx147_1, hx147_2, hx147_3, hx147_4, hl147_4, hi147_4⟩ := at_T35 HR0_1.out x5_1 p147 q147
      cases e147
      replace hx147_0 := (HB.out.cell (World.block_lt_of_cell? w _ hx147_0)).trans hx147_0
      replace hx147_1 := (HB.out.cell (World.block_lt_of_cell? w _ hx147_1)).trans hx147_1
      replace hx147_2 := (HB.out.cell (World.block_lt_of_cell? w _ hx147_2)).trans hx147_2
      replace hx147_3 := (HB.out.cell (World.block_lt_of_cell? w _ hx147_3)).trans hx147_3
      replace hx147_4 := (HB.out.cell (World.block_lt_of_cell? w _ hx147_4)).trans hx147_4
      have HR147_4 := Aside0.mk hi147_4
      have HC147_4 := Aside0.mk hl147_4
      clear hi147_4 hl147_4
      replace p147 := eq_true p147
      replace q147 := eq_true q147
      go_wp2
      go_ret
      exact ⟨by (rfl), by repeat ((with_reducible (exact HB.out)))⟩
     ·rw [if_neg c6] at H
      have c6b0 : (((rd_T35 l0_1 x5_1).f0).toList == a1.toList) = false := beq_eq_false_iff_ne.mpr c6
      have c6b1 : (((rd_T35 l0_1 x5_1).f0).toList != a1.toList) = true := bne_iff_ne.mpr c6
      have H' := Aside0.mk H
      clear H
      have hcz8_0 : wr.cell? ⟨gb146, 0, none⟩ = some (.string a0_0) := (blk_cell BK146.out 0).trans rfl
      have hcz8_1 : wr.cell? ⟨gb146, 1, none⟩ = some (.slice A0_1 l0_1.length c0_1) := (blk_cell BK146.out 1).trans rfl
      have hfz8_0 := blk_frozen BK146.out 0
      have hfz8_1 := blk_frozen BK146.out 1
      have p147 : 0 ≤ (x5_1 : Int) := of_decide_eq_true (by (with_reducible assumption))
      have q147 : x5_1 < (l0_1.length : Int) := of_decide_eq_true (by (with_reducible assumption))
      obtain ⟨ad147, A147_4, c147_4, e147, hx147_0, hx147_1, hx147_2, hx147_3, hx147_4, hl147_4, hi147_4⟩ := at_T35 HR0_1.out x5_1 p147 q147
      cases e147
      replace hx147_0 := (HB.out.cell (World.block_lt_of_cell? w _ hx147_0)).trans hx147_0
      replace hx147_1 := (HB.out.cell (World.block_lt_of_cell? w _ hx147_1)).trans hx147_1
      replace hx147_2 := (HB.out.cell (World.block_lt_of_cell? w _ hx147_2)).trans hx147_2
      replace hx147_3 := (HB.out.cell (World.block_lt_of_cell? w _ hx147_3)).trans hx147_3
      replace hx147_4 := (HB.out.cell (World.block_lt_of_cell? w _ hx147_4)).trans hx147_4
      have HR147_4 := Aside0.mk hi147_4
      have HC147_4 := Aside0.mk hl147_4
      clear hi147_4 hl147_4
      replace p147 := eq_true p147
      replace q147 := eq_true q147
      go_wp2
      go_roundg k1
      case measure => have := HK1.out; omega
      case rel => exact ⟨(wrap64 (x5_1 + 1)), (by (rfl)), H', ⟨by have := HK1.out; omega⟩, ⟨by (with_reducible repeat ((refine blk_drew ?_))); exact BK146.out⟩, ⟨by repeat ((with_reducible (exact HB.out)))⟩⟩
    ·rw [if_neg c5] at H
     exact absurd H (by simp)
   ·rw [if_neg c4] at H
    have c4b0 : decide (x5_1 < (l0_1.length : Int)) = false := decide_eq_false c4
    clear c4
    obtain rfl := Option.some.inj H
    have hcz9_0 : wr.cell? ⟨gb146, 0, none⟩ = some (.string a0_0) := (blk_cell BK146.out 0).trans rfl
    have hcz9_1 : wr.cell? ⟨gb146, 1, none⟩ = some (.slice A0_1 l0_1.length c0_1) := (blk_cell BK146.out 1).trans rfl
    have hfz9_0 := blk_frozen BK146.out 0
    have hfz9_1 := blk_frozen BK146.out 1
    go_wp2
    go_ret
    exact ⟨by (rfl), by repeat ((with_reducible (exact HB.out)))⟩
end Go.Proofs.YtjcipbdocbomjaaGreatDoor.K
namespace Go.Proofs.YtjcipbdocbomjaaGreatDoor.K
open Go.RowKit Go.Proofs.YtjcipbdocbomjaaGreatDoorW.PrintWords Go.Proofs.YtjcipbdocbomjaaGreatDoorW.PrintLast Go.Proofs.YtjcipbdocbomjaaGreatDoorW.PrintMore
attribute [local go_sem] max2_int min2_int max_two min_two max_three min_three max_four min_four   -- for this text's walks alone
set_option linter.unusedVariables false
set_option linter.unusedSimpArgs false
/-! ### lunetteref12_named: function 33 -/
mutual
def lunetteref12_named.j0 : Nat → Bool → ByteArray → List (S35) → ByteArray → ByteArray → ByteArray → List (S33) → Option (Bool)
 | 0, _, _, _, _, _, _, _ => none
 | k + 1, x5, x149000, x149001, x150000, x150001, x150002, x150003 => if x150000.toList = ([102, 114, 111, 109] : List UInt8) then ((lunetteref12_has.f k x149000 x149001 x150002).bind fun t151 => (if t151 = true then ((lunetteref12_Name.f k x150001).bind fun t152 => (lunetteref12_named.j1 k t152 x149000 x149001 x150000 x150001 x150002 x150003)) else (lunetteref12_named.j1 k false x149000 x149001 x150000 x150001 x150002 x150003))) else (lunetteref12_named.j1 k x5 x149000 x149001 x150000 x150001 x150002 x150003)
def lunetteref12_named.j1 : Nat → Bool → ByteArray → List (S35) → ByteArray → ByteArray → ByteArray → List (S33) → Option (Bool)
 | 0, _, _, _, _, _, _, _ => none
 | k + 1, x5, x149000, x149001, x150000, x150001, x150002, x150003 => lunetteref12_named.l0 k x5 0 x149000 x149001 x150000 x150001 x150002 x150003
def lunetteref12_named.l0 : Nat → Bool → Int → ByteArray → List (S35) → ByteArray → ByteArray → ByteArray → List (S33) → Option (Bool)
 | 0, _, _, _, _, _, _, _, _ => none
 | k + 1, x5, x6, x149000, x149001, x150000, x150001, x150002, x150003 => if x6 < (x150003.length : Int) then (if x5 = true then (if 0 ≤ x6 then ((lunetteref12_named.f k x149000 x149001 ((rd_T33 x150003 x6).f0) ((rd_T33 x150003 x6).f1) ((rd_T33 x150003 x6).f2) ((rd_T33 x150003 x6).f3)).bind fun t154 => (lunetteref12_named.l0 k t154 (wrap64 (x6 + 1)) x149000 x149001 x150000 x150001 x150002 x150003)) else (none)) else (lunetteref12_named.l0 k false (wrap64 (x6 + 1)) x149000 x149001 x150000 x150001 x150002 x150003)) else (some x5)
def lunetteref12_named.f : Nat → ByteArray → List (S35) → ByteArray → ByteArray → ByteArray → List (S33) → Option (Bool)
 | 0, _, _, _, _, _, _ => none
 | k + 1, a0_0, l0_1, a1_0, a1_1, a1_2, l1_3 => if a1_0.toList = ([114, 101, 108] : List UInt8) then ((lunetteref12_has.f k a0_0 l0_1 a1_1).bind fun t150 => (lunetteref12_named.j0 k t150 a0_0 l0_1 a1_0 a1_1 a1_2 l1_3)) else (lunetteref12_named.j0 k true a0_0 l0_1 a1_0 a1_1 a1_2 l1_3)
end
def lunetteref12_named.T7 : Bool × List (List Nat × List Nat) := (true, [([], []), ([0], [0]), ([1], [1]), ([1], [1]), ([3, 1], [1, 3]), ([1], [1]), ([4, 5, 1], [1, 4, 5]), ([6, 1], [1, 6]), ([2, 7, 1, 1], [1, 2, 7]), ([1, 8], [1, 8]), ([9, 8, 0, 1, 2, 3, 4, 5, 6, 7, 8, 9], [0, 9])])
def lunetteref12_named.B7 : List Nat := [0, 1, 3, 3, 11, 3, 59, 123, 255, 511, 1023]
theorem lunetteref12_named.tab7 : rtab .any (opsOf Tryz.f33 7) = lunetteref12_named.T7 := by kernel_rfl
theorem lunetteref12_named.bits7 : waitsOk lunetteref12_named.T7.2 lunetteref12_named.B7 = true := by kernel_rfl
set_option maxHeartbeats 8000000 in
set_option maxRecDepth 100000 in
theorem lunetteref12_named.calls (k : Nat) : ∀ (a0_0 : ByteArray) (A0_1 : Option Addr) (c0_1 : Nat) (l0_1 : List (S35)) (a1_0 : ByteArray) (a1_1 : ByteArray) (a1_2 : ByteArray) (A1_3 : Option Addr) (c1_3 : Nat) (l1_3 : List (S33)) (r : Bool) (w : World) (hr0_1 : Kd.C k35 w A0_1 l0_1.length l0_1) (hc0_1 : l0_1.length ≤ c0_1) (hr1_3 : Kd.C k33 w A1_3 l1_3.length l1_3) (hc1_3 : l1_3.length ≤ c1_3) (h : lunetteref12_named.f k a0_0 l0_1 a1_0 a1_1 a1_2 l1_3 = some r),
  Calls Tryz.prog 33 #[.agg #[.string a0_0, .slice A0_1 l0_1.length c0_1], .agg #[.string a1_0, .string a1_1, .string a1_2, .slice A1_3 l1_3.length c1_3]] w fun e w' => e = .returned (.bool r) ∧ Below w.heap.size w w' := by
 induction k using Nat.strongRecOn with
 | _ k ih =>
 intro a0_0 A0_1 c0_1 l0_1 a1_0 a1_1 a1_2 A1_3 c1_3 l1_3 r w hr0_1 hc0_1 hr1_3 hc1_3 h
 cases k with
 | zero => exact absurd h (by simp [lunetteref12_named.f])
 | succ k =>
 simp only [lunetteref12_named.f] at h
 have hu30 := Tryz.underlying30
 have hu33 := Tryz.underlying33
 have HR0_1 := Aside0.mk hr0_1
 have HC0_1 := Aside0.mk hc0_1
 clear hr0_1 hc0_1
 have HR1_3 := Aside0.mk hr1_3
 have HC1_3 := Aside0.mk hc1_3
 clear hr1_3 hc1_3
 have HB := Aside0.mk (Below.refl w.heap.size w)
 have H : (if a1_0.toList = ([114, 101, 108] : List UInt8) then ((lunetteref12_has.f k a0_0 l0_1 a1_1).bind fun t150 => (lunetteref12_named.j0 k t150 a0_0 l0_1 a1_0 a1_1 a1_2 l1_3)) else (lunetteref12_named.j0 k true a0_0 l0_1 a1_0 a1_1 a1_2 l1_3)) = some r := h
 clear h
 have HC3 := Aside0.mk H
 clear H
 go_enter Tryz.func33, Tryz.ntmps33
 go_upto_region 1 with (first | ((with_reducible refine gate_dst (N := 2) rfl ?_); refine box_event ?hg (N := 2) ?hd (cs := #[.string a0_0, .slice A0_1 l0_1.length c0_1]) (t := 30) ?hr ?_; (case hd => rfl); (case hg => rfl); (case hr => (go_simp; done)); intro gb148 hg w4 hbox hb; have n0_ := Aside0.mk (below_step (by repeat ((with_reducible (exact HB.out)))) hb); have n1_ := Aside0.mk (hbox); have n2_ := Aside0.mk ((by rw [hg]; exact (below_size (by repeat ((with_reducible (exact HB.out))))) : w.heap.size ≤ gb148)); have n3_ := Aside0.mk ((by rw [hg]; exact (below_size (by repeat ((with_reducible (exact HB.out))))) : w.heap.size ≤ gb148)); clear HB; have HB := n0_; have BK148 := n1_; have GW148 := n2_; have GE148 := n3_; clear n0_ n1_ n2_ n3_; clear hb hbox hg) | ((with_reducible refine gate_dst (N := 3) rfl ?_); refine box_event ?hg (N := 3) ?hd (cs := #[.string a1_0, .string a1_1, .string a1_2, .slice A1_3 l1_3.length c1_3]) (t := 33) ?hr ?_; (case hd => rfl); (case hg => rfl); (case hr => (go_simp; done)); intro gb149 hg w5 hbox hb; have n0_ := Aside0.mk (blk_below (g := gb148) (o := .cells #[.string a0_0, .slice A0_1 l0_1.length c0_1] 30 (0, 0)) (by (with_reducible repeat ((refine blk_drew ?_))); exact BK148.out) hb); have n1_ := Aside0.mk (below_step (by repeat ((with_reducible (exact HB.out)))) hb); have n2_ := Aside0.mk (hbox); have n3_ := Aside0.mk ((by rw [hg]; exact (below_size (by repeat ((with_reducible (exact HB.out))))) : w.heap.size ≤ gb149)); have n4_ := Aside0.mk ((by rw [hg]; exact (below_size (by repeat ((with_reducible (exact HB.out))))) : w.heap.size ≤ gb149)); have n5_ := Aside0.mk ((by rw [hg]; exact Nat.ne_of_lt (blk_lt (g := gb148) (o := .cells #[.string a0_0, .slice A0_1 l0_1.length c0_1] 30 (0, 0)) (by (with_reducible repeat ((refine blk_drew ?_))); exact BK148.out)) : gb148 ≠ gb149)); have n6_ := Aside0.mk ((by rw [hg]; exact Nat.ne_of_gt (blk_lt (g := gb148) (o := .cells #[.string a0_0, .slice A0_1 l0_1.length c0_1] 30 (0, 0)) (by (with_reducible repeat ((refine blk_drew ?_))); exact BK148.out)) : gb149 ≠ gb148)); clear BK148; clear HB; have BK148 := n0_; have HB := n1_; have BK149 := n2_; have GW149 := n3_; have GE149 := n4_; have NB148_149 := n5_; have NB149_148 := n6_; clear n0_ n1_ n2_ n3_ n4_ n5_ n6_; clear hb hbox hg))
 (try simp only [Act.put, List.setIfInBounds_toArray, List.set_cons_zero, List.set_cons_succ])
 go_cut [5] (fun v5 wc => ∃ (kq : Nat) (x5_2 : Bool), v5 = .bool x5_2 ∧ Aside0 (lunetteref12_named.j0 kq x5_2 a0_0 l0_1 a1_0 a1_1 a1_2 l1_3 = some r) ∧ Aside0 (kq ≤ k) ∧ Aside0 (wc.heap[gb148]? = some (.cells #[.string a0_0, (.slice A0_1 l0_1.length c0_1)] 30 (0, 0))) ∧ Aside0 (wc.heap[gb149]? = some (.cells #[.string a1_0, .string a1_1, .string a1_2, (.slice A1_3 l1_3.length c1_3)] 33 (0, 0))) ∧ Aside0 (Below w.heap.size w wc))
 case first =>
  have H := HC3.out
  clear HC3
  by_cases c6 : a1_0.toList = ([114, 101, 108] : List UInt8)
  ·rw [if_pos c6] at H
   have c6b0 : (a1_0.toList == ([114, 101, 108] : List UInt8)) = true := beq_iff_eq.mpr c6
   have c6b1 : (a1_0.toList != ([114, 101, 108] : List UInt8)) = false := bne_eq_false_iff_eq.mpr c6
   clear c6
   ((skip))
   replace H := Option.bind_eq_some_iff.mp H
   obtain ⟨t150, A70, H⟩ := H
   replace H : (lunetteref12_named.j0 k t150 a0_0 l0_1 a1_0 a1_1 a1_2 l1_3) = some r := H
   have A7 := Aside0.mk A70
   clear A70
   have H' := Aside0.mk H
   clear H
   have hnb8 := NB149_148.out
   have hnc8 := NB148_149.out
   have hcz9_0 : w5.cell? ⟨gb149, 0, none⟩ = some (.string a1_0) := (blk_cell BK149.out 0).trans rfl
   have hcz9_1 : w5.cell? ⟨gb149, 1, none⟩ = some (.string a1_1) := (blk_cell BK149.out 1).trans rfl
   have hcz9_2 : w5.cell? ⟨gb149, 2, none⟩ = some (.string a1_2) := (blk_cell BK149.out 2).trans rfl
   have hcz9_3 : w5.cell? ⟨gb149, 3, none⟩ = some (.slice A1_3 l1_3.length c1_3) := (blk_cell BK149.out 3).trans rfl
   have hfz9_0 := blk_frozen BK149.out 0
   have hfz9_1 := blk_frozen BK149.out 1
   have hfz9_2 := blk_frozen BK149.out 2
   have hfz9_3 := blk_frozen BK149.out 3
   have hcz10_0 : w5.cell? ⟨gb148, 0, none⟩ = some (.string a0_0) := (blk_cell BK148.out 0).trans rfl
   have hcz10_1 : w5.cell? ⟨gb148, 1, none⟩ = some (.slice A0_1 l0_1.length c0_1) := (blk_cell BK148.out 1).trans rfl
   have hfz10_0 := blk_frozen BK148.out 0
   have hfz10_1 := blk_frozen BK148.out 1
   go_wp2_with ((go_at_call 56; (with_reducible refine (lunetteref12_has.calls k a0_0 _ _ l0_1 a1_1 t150 _ ?side1 ?side2 A7.out).mono ?_); (case side1 => repeat ((exact (Kd.C_below HR0_1.out HB.out)))); (case side2 => exact HC0_1.out); rintro e w11 ⟨rfl, hb⟩; have n0_ := Aside0.mk (blk_below (g := gb148) (o := .cells #[.string a0_0, .slice A0_1 l0_1.length c0_1] 30 (0, 0)) (by (with_reducible repeat ((refine blk_drew ?_))); exact BK148.out) hb); have n1_ := Aside0.mk (blk_below (g := gb149) (o := .cells #[.string a1_0, .string a1_1, .string a1_2, .slice A1_3 l1_3.length c1_3] 33 (0, 0)) (by (with_reducible repeat ((refine blk_drew ?_))); exact BK149.out) hb); have n2_ := Aside0.mk (below_step (by repeat ((with_reducible (exact HB.out)))) hb); clear BK148; clear BK149; clear HB; have BK148 := n0_; have BK149 := n1_; have HB := n2_; clear n0_ n1_ n2_; (try clear hb)))
   go_meet
   case rel => exact ⟨_, (t150), (by (rfl)), H', ⟨by (omega)⟩, ⟨by (with_reducible repeat ((refine blk_drew ?_))); exact BK148.out⟩, ⟨by (with_reducible repeat ((refine blk_drew ?_))); exact BK149.out⟩, ⟨by repeat ((with_reducible (exact HB.out)))⟩⟩
  ·rw [if_neg c6] at H
   have c6b0 : (a1_0.toList == ([114, 101, 108] : List UInt8)) = false := beq_eq_false_iff_ne.mpr c6
   have c6b1 : (a1_0.toList != ([114, 101, 108] : List UInt8)) = true := bne_iff_ne.mpr c6
   ((skip))
   have H' := Aside0.mk H
   clear H
   have hnb12 := NB149_148.out
   have hnc12 := NB148_149.out
   have hcz13_0 : w5.cell? ⟨gb149, 0, none⟩ = some (.string a1_0) := (blk_cell BK149.out 0).trans rfl
   have hcz13_1 : w5.cell? ⟨gb149, 1, none⟩ = some (.string a1_1) := (blk_cell BK149.out 1).trans rfl
   have hcz13_2 : w5.cell? ⟨gb149, 2, none⟩ = some (.string a1_2) := (blk_cell BK149.out 2).trans rfl
   have hcz13_3 : w5.cell? ⟨gb149, 3, none⟩ = some (.slice A1_3 l1_3.length c1_3) := (blk_cell BK149.out 3).trans rfl
   have hfz13_0 := blk_frozen BK149.out 0
   have hfz13_1 := blk_frozen BK149.out 1
   have hfz13_2 := blk_frozen BK149.out 2
   have hfz13_3 := blk_frozen BK149.out 3
   go_wp2
   go_meet
   case rel => exact ⟨_, (true), (by (rfl)), H', ⟨by (omega)⟩, ⟨by (with_reducible repeat ((refine blk_drew ?_))); exact BK148.out⟩, ⟨by (with_reducible repeat ((refine blk_drew ?_))); exact BK149.out⟩, ⟨by repeat ((with_reducible (exact HB.out)))⟩⟩
 case rest =>
  clear HC3
  obtain ⟨kq, x5_2, rfl, HA, HJ2, BK148, BK149, HB⟩ := hcut
  cases kq with
  | zero => exact absurd HA.out (by simp [lunetteref12_named.j0])
  | succ kj2 =>
   have H := HA.out
   clear HA
   simp only [lunetteref12_named.j0] at H
   have HC14 := Aside0.mk H
   clear H
   have hnb15 := NB149_148.out
   have hnc15 := NB148_149.out
   have hcz16_0 : wc.cell? ⟨gb149, 0, none⟩ = some (.string a1_0) := (blk_cell BK149.out 0).trans rfl
   have hcz16_1 : wc.cell? ⟨gb149, 1, none⟩ = some (.string a1_1) := (blk_cell BK149.out 1).trans rfl
   have hcz16_2 : wc.cell? ⟨gb149, 2, none⟩ = some (.string a1_2) := (blk_cell BK149.out 2).trans rfl
   have hcz16_3 : wc.cell? ⟨gb149, 3, none⟩ = some (.slice A1_3 l1_3.length c1_3) := (blk_cell BK149.out 3).trans rfl
   have hfz16_0 := blk_frozen BK149.out 0
   have hfz16_1 := blk_frozen BK149.out 1
   have hfz16_2 := blk_frozen BK149.out 2
   have hfz16_3 := blk_frozen BK149.out 3
   go_upto_if 18 with (fail)
   go_cut [5] (fun v5 wc => ∃ (kq : Nat) (x5_13 : Bool), v5 = .bool x5_13 ∧ Aside0 (lunetteref12_named.j1 kq x5_13 a0_0 l0_1 a1_0 a1_1 a1_2 l1_3 = some r) ∧ Aside0 (kq ≤ kj2) ∧ Aside0 (wc.heap[gb148]? = some (.cells #[.string a0_0, (.slice A0_1 l0_1.length c0_1)] 30 (0, 0))) ∧ Aside0 (wc.heap[gb149]? = some (.cells #[.string a1_0, .string a1_1, .string a1_2, (.slice A1_3 l1_3.length c1_3)] 33 (0, 0))) ∧ Aside0 (Below w.heap.size w wc))
   case first =>
    have H := HC14.out
    clear HC14
    by_cases c17 : a1_0.toList = ([102, 114, 111, 109] : List UInt8)
    ·rw [if_pos c17] at H
     have c17b0 : (a1_0.toList == ([102, 114, 111, 109] : List UInt8)) = true := beq_iff_eq.mpr c17
     have c17b1 : (a1_0.toList != ([102, 114, 111, 109] : List UInt8)) = false := bne_eq_false_iff_eq.mpr c17
     clear c17
     ((rw [c17b0]))
     replace H := Option.bind_eq_some_iff.mp H
     obtain ⟨t151, A180, H⟩ := H
     replace H : (if t151 = true then ((lunetteref12_Name.f kj2 a1_1).bind fun t152 => (lunetteref12_named.j1 kj2 t152 a0_0 l0_1 a1_0 a1_1 a1_2 l1_3)) else (lunetteref12_named.j1 kj2 false a0_0 l0_1 a1_0 a1_1 a1_2 l1_3)) = some r := H
     have A18 := Aside0.mk A180
     clear A180
     by_cases c19 : t151 = true
     ·subst c19
      have H1 : ((lunetteref12_Name.f kj2 a1_1).bind fun t152 => (lunetteref12_named.j1 kj2 t152 a0_0 l0_1 a1_0 a1_1 a1_2 l1_3)) = some r := by rw [if_pos rfl] at H; exact H
      clear H
      have H := H1
      clear H1
      replace H := Option.bind_eq_some_iff.mp H
      obtain ⟨t152, A200, H⟩ := H
      replace H : (lunetteref12_named.j1 kj2 t152 a0_0 l0_1 a1_0 a1_1 a1_2 l1_3) = some r := H
      have A20 := Aside0.mk A200
      clear A200
      have H' := Aside0.mk H
      clear H
      have hnb21 := NB148_149.out
      have hnc21 := NB149_148.out
      have hcz22_0 : wc.cell? ⟨gb148, 0, none⟩ = some (.string a0_0) := (blk_cell BK148.out 0).trans rfl
      have hcz22_1 : wc.cell? ⟨gb148, 1, none⟩ = some (.slice A0_1 l0_1.length c0_1) := (blk_cell BK148.out 1).trans rfl
      have hfz22_0 := blk_frozen BK148.out 0
      have hfz22_1 := blk_frozen BK148.out 1
      have hcz23_0 : wc.cell? ⟨gb149, 0, none⟩ = some (.string a1_0) := (blk_cell BK149.out 0).trans rfl
      have hcz23_1 : wc.cell? ⟨gb149, 1, none⟩ = some (.string a1_1) := (blk_cell BK149.out 1).trans rfl
      have hcz23_2 : wc.cell? ⟨gb149, 2, none⟩ = some (.string a1_2) := (blk_cell BK149.out 2).trans rfl
      have hcz23_3 : wc.cell? ⟨gb149, 3, none⟩ = some (.slice A1_3 l1_3.length c1_3) := (blk_cell BK149.out 3).trans rfl
      have hfz23_0 := blk_frozen BK149.out 0
      have hfz23_1 := blk_frozen BK149.out 1
      have hfz23_2 := blk_frozen BK149.out 2
      have hfz23_3 := blk_frozen BK149.out 3
      go_wp2_with (first | ((with_reducible refine gate_callee (f := 56) rfl ?_); refine goesL_ (some 22) rfl rfl Tryz.func56 (by kernel_rfl) rfl #[.agg #[.string a0_0, .slice A0_1 l0_1.length c0_1], .string a1_2] rfl (by (try simp only [List.map_toArray, List.map_cons, List.map_nil]); (rfl)) ?_; (with_reducible refine (lunetteref12_has.calls kj2 a0_0 _ _ l0_1 a1_2 true _ ?side1 ?side2 A18.out).mono ?_); (case side1 => repeat ((exact (Kd.C_below HR0_1.out HB.out)))); (case side2 => exact HC0_1.out); rintro e w24 ⟨rfl, hb⟩; refine ⟨_, rfl, ?_⟩; have n0_ := Aside0.mk (blk_below (g := gb148) (o := .cells #[.string a0_0, .slice A0_1 l0_1.length c0_1] 30 (0, 0)) (by (with_reducible repeat ((refine blk_drew ?_))); exact BK148.out) hb); have n1_ := Aside0.mk (blk_below (g := gb149) (o := .cells #[.string a1_0, .string a1_1, .string a1_2, .slice A1_3 l1_3.length c1_3] 33 (0, 0)) (by (with_reducible repeat ((refine blk_drew ?_))); exact BK149.out) hb); have n2_ := Aside0.mk (below_step (by repeat ((with_reducible (exact HB.out)))) hb); clear BK148; clear BK149; clear HB; have BK148 := n0_; have BK149 := n1_; have HB := n2_; clear n0_ n1_ n2_; (try clear hb); have hcz25_0 : w24.cell? ⟨gb149, 0, none⟩ = some (.string a1_0) := (blk_cell BK149.out 0).trans rfl; have hcz25_1 : w24.cell? ⟨gb149, 1, none⟩ = some (.string a1_1) := (blk_cell BK149.out 1).trans rfl; have hcz25_2 : w24.cell? ⟨gb149, 2, none⟩ = some (.string a1_2) := (blk_cell BK149.out 2).trans rfl; have hcz25_3 : w24.cell? ⟨gb149, 3, none⟩ = some (.slice A1_3 l1_3.length c1_3) := (blk_cell BK149.out 3).trans rfl; have hfz25_0 := blk_frozen BK149.out 0; have hfz25_1 := blk_frozen BK149.out 1; have hfz25_2 := blk_frozen BK149.out 2; have hfz25_3 := blk_frozen BK149.out 3) | (go_at_call 31; (with_reducible refine (lunetteref12_Name.calls kj2 a1_1 t152 _ A20.out).mono ?_); rintro e w' ⟨rfl, ⟨nd, rfl⟩⟩))
      go_meet
      case rel => exact ⟨_, (t152), (by (rfl)), H', ⟨by have := HJ2.out; (omega)⟩, ⟨by (with_reducible repeat ((refine blk_drewN ?_ _))); exact BK148.out⟩, ⟨by (with_reducible repeat ((refine blk_drewN ?_ _))); exact BK149.out⟩, ⟨by repeat ((with_reducible first | exact HB.out | apply pw_below_drewN))⟩⟩
     ·replace c19 := Bool.eq_false_iff.mpr c19
      subst c19
      have H1 : (lunetteref12_named.j1 kj2 false a0_0 l0_1 a1_0 a1_1 a1_2 l1_3) = some r := by rw [if_neg (show ¬ (false = true) by decide)] at H; exact H
      clear H
      have H := H1
      clear H1
      have H' := Aside0.mk H
      clear H
      have hnb26 := NB148_149.out
      have hnc26 := NB149_148.out
      have hcz27_0 : wc.cell? ⟨gb148, 0, none⟩ = some (.string a0_0) := (blk_cell BK148.out 0).trans rfl
      have hcz27_1 : wc.cell? ⟨gb148, 1, none⟩ = some (.slice A0_1 l0_1.length c0_1) := (blk_cell BK148.out 1).trans rfl
      have hfz27_0 := blk_frozen BK148.out 0
      have hfz27_1 := blk_frozen BK148.out 1
      have hcz28_0 : wc.cell? ⟨gb149, 0, none⟩ = some (.string a1_0) := (blk_cell BK149.out 0).trans rfl
      have hcz28_1 : wc.cell? ⟨gb149, 1, none⟩ = some (.string a1_1) := (blk_cell BK149.out 1).trans rfl
      have hcz28_2 : wc.cell? ⟨gb149, 2, none⟩ = some (.string a1_2) := (blk_cell BK149.out 2).trans rfl
      have hcz28_3 : wc.cell? ⟨gb149, 3, none⟩ = some (.slice A1_3 l1_3.length c1_3) := (blk_cell BK149.out 3).trans rfl
      have hfz28_0 := blk_frozen BK149.out 0
      have hfz28_1 := blk_frozen BK149.out 1
      have hfz28_2 := blk_frozen BK149.out 2
      have hfz28_3 := blk_frozen BK149.out 3
      go_wp2_with (((with_reducible refine gate_callee (f := 56) rfl ?_); refine goesL_ (some 22) rfl rfl Tryz.func56 (by kernel_rfl) rfl #[.agg #[.string a0_0, .slice A0_1 l0_1.length c0_1], .string a1_2] rfl (by (try simp only [List.map_toArray, List.map_cons, List.map_nil]); (rfl)) ?_; (with_reducible refine (lunetteref12_has.calls kj2 a0_0 _ _ l0_1 a1_2 false _ ?side1 ?side2 A18.out).mono ?_); (case side1 => repeat ((exact (Kd.C_below HR0_1.out HB.out)))); (case side2 => exact HC0_1.out); rintro e w29 ⟨rfl, hb⟩; refine ⟨_, rfl, ?_⟩; have n0_ := Aside0.mk (blk_below (g := gb148) (o := .cells #[.string a0_0, .slice A0_1 l0_1.length c0_1] 30 (0, 0)) (by (with_reducible repeat ((refine blk_drew ?_))); exact BK148.out) hb); have n1_ := Aside0.mk (blk_below (g := gb149) (o := .cells #[.string a1_0, .string a1_1, .string a1_2, .slice A1_3 l1_3.length c1_3] 33 (0, 0)) (by (with_reducible repeat ((refine blk_drew ?_))); exact BK149.out) hb); have n2_ := Aside0.mk (below_step (by repeat ((with_reducible (exact HB.out)))) hb); clear BK148; clear BK149; clear HB; have BK148 := n0_; have BK149 := n1_; have HB := n2_; clear n0_ n1_ n2_; (try clear hb)))
      go_meet
      case rel => exact ⟨_, (false), (by (rfl)), H', ⟨by have := HJ2.out; (omega)⟩, ⟨by (with_reducible repeat ((refine blk_drew ?_))); exact BK148.out⟩, ⟨by (with_reducible repeat ((refine blk_drew ?_))); exact BK149.out⟩, ⟨by repeat ((with_reducible (exact HB.out)))⟩⟩
    ·rw [if_neg c17] at H
     have c17b0 : (a1_0.toList == ([102, 114, 111, 109] : List UInt8)) = false := beq_eq_false_iff_ne.mpr c17
     have c17b1 : (a1_0.toList != ([102, 114, 111, 109] : List UInt8)) = true := bne_iff_ne.mpr c17
     ((rw [c17b0]))
     have H' := Aside0.mk H
     clear H
     go_wp2
     go_meet
     case rel => exact ⟨_, (x5_2), (by (rfl)), H', ⟨by have := HJ2.out; (omega)⟩, ⟨by (with_reducible repeat ((refine blk_drew ?_))); exact BK148.out⟩, ⟨by (with_reducible repeat ((refine blk_drew ?_))); exact BK149.out⟩, ⟨by repeat ((with_reducible (exact HB.out)))⟩⟩
   case rest =>
    clear HC14
    try clear hcz16_0
    try clear hcz16_1
    try clear hcz16_2
    try clear hcz16_3
    try clear hfz16_0
    try clear hfz16_1
    try clear hfz16_2
    try clear hfz16_3
    obtain ⟨kq, x5_13, rfl, HA, HJ13, BK148, BK149, HB⟩ := hcut
    cases kq with
    | zero => exact absurd HA.out (by simp [lunetteref12_named.j1])
    | succ kj13 =>
     have H := HA.out
     clear HA
     simp only [lunetteref12_named.j1] at H
     have H' := Aside0.mk H
     clear H
     go_wp2
     go_loopg [5, 6] kj13 (fun kq v5 v6 w' => ∃ (x5_3 : Bool) (x6_3 : Int), v5 = .bool x5_3 ∧ v6 = .int .i64 x6_3 ∧ Aside0 (lunetteref12_named.l0 kq x5_3 x6_3 a0_0 l0_1 a1_0 a1_1 a1_2 l1_3 = some r) ∧ Aside0 (kq ≤ kj13) ∧ Aside0 (w'.heap[gb148]? = some (.cells #[.string a0_0, (.slice A0_1 l0_1.length c0_1)] 30 (0, 0))) ∧ Aside0 (w'.heap[gb149]? = some (.cells #[.string a1_0, .string a1_1, .string a1_2, (.slice A1_3 l1_3.length c1_3)] 33 (0, 0))) ∧ Aside0 (Below w.heap.size w w'))
     case atStart => exact ⟨(x5_13), (0), (by (rfl)), (by (rfl)), H', ⟨Nat.le_refl _⟩, ⟨by (with_reducible repeat ((refine blk_drew ?_))); exact BK148.out⟩, ⟨by (with_reducible repeat ((refine blk_drew ?_))); exact BK149.out⟩, ⟨by repeat ((with_reducible (exact HB.out)))⟩⟩
     case round =>
      clear H'
      obtain ⟨x5_3, x6_3, rfl, rfl, HA, HK3, BK148, BK149, HB⟩ := hrel
      cases gk with
      | zero => exact absurd HA.out (by simp [lunetteref12_named.l0])
      | succ k3 =>
       have H := HA.out
       clear HA
       simp only [lunetteref12_named.l0] at H
       by_cases c30 : x6_3 < (l1_3.length : Int)
       ·rw [if_pos c30] at H
        have c30b0 : decide (x6_3 < (l1_3.length : Int)) = true := decide_eq_true c30
        clear c30
        by_cases c31 : x5_3 = true
        ·subst c31
         have H1 : (if 0 ≤ x6_3 then ((lunetteref12_named.f k3 a0_0 l0_1 ((rd_T33 l1_3 x6_3).f0) ((rd_T33 l1_3 x6_3).f1) ((rd_T33 l1_3 x6_3).f2) ((rd_T33 l1_3 x6_3).f3)).bind fun t154 => (lunetteref12_named.l0 k3 t154 (wrap64 (x6_3 + 1)) a0_0 l0_1 a1_0 a1_1 a1_2 l1_3)) else (none)) = some r := by rw [if_pos rfl] at H; exact H
         clear H
         have H := H1
         clear H1
         by_cases c32 : 0 ≤ x6_3
         ·rw [if_pos c32] at H
          have c32b0 : decide (0 ≤ x6_3) = true := decide_eq_true c32
          clear c32
          replace H := Option.bind_eq_some_iff.mp H
          obtain ⟨t154, A330, H⟩ := H
          replace H : (lunetteref12_named.l0 k3 t154 (wrap64 (x6_3 + 1)) a0_0 l0_1 a1_0 a1_1 a1_2 l1_3) = some r := H
          have A33 := Aside0.mk A330
          clear A330
          have H' := Aside0.mk H
          clear H
          have hnb34 := NB149_148.out
          have hnc34 := NB148_149.out
          have hcz35_0 : wr.cell? ⟨gb149, 0, none⟩ = some (.string a1_0) := (blk_cell BK149.out 0).trans rfl
          have hcz35_1 : wr.cell? ⟨gb149, 1, none⟩ = some (.string a1_1) := (blk_cell BK149.out 1).trans rfl
          have hcz35_2 : wr.cell? ⟨gb149, 2, none⟩ = some (.string a1_2) := (blk_cell BK149.out 2).trans rfl
          have hcz35_3 : wr.cell? ⟨gb149, 3, none⟩ = some (.slice A1_3 l1_3.length c1_3) := (blk_cell BK149.out 3).trans rfl
          have hfz35_0 := blk_frozen BK149.out 0
          have hfz35_1 := blk_frozen BK149.out 1
          have hfz35_2 := blk_frozen BK149.out 2
          have hfz35_3 := blk_frozen BK149.out 3
          try go_wp2
          have n0_ := Aside0.mk (blk_drew BK148.out)
          have n1_ := Aside0.mk (blk_drew BK149.out)
          have n2_ := Aside0.mk (below_drew1 HB.out)
          clear BK148
          clear BK149
          clear HB
          have BK148 := n0_
          have BK149 := n1_
          have HB := n2_
          clear n0_ n1_ n2_
          have p153 : 0 ≤ (x6_3 : Int) := of_decide_eq_true (by (with_reducible assumption))
          have q153 : x6_3 < (l1_3.length : Int) := of_decide_eq_true (by (with_reducible assumption))
          obtain ⟨ad153, A153_3, c153_3, e153, hx153_0, hx153_1, hx153_2, hx153_3, hl153_3, hi153_3⟩ := at_T33 HR1_3.out x6_3 p153 q153
          have hw153_3 := hx153_3
          have hw153_2 := hx153_2
          have hw153_1 := hx153_1
          have hw153_0 := hx153_0
          cases e153
          replace hx153_0 := (HB.out.cell (World.block_lt_of_cell? w _ hx153_0)).trans hx153_0
          replace hx153_1 := (HB.out.cell (World.block_lt_of_cell? w _ hx153_1)).trans hx153_1
          replace hx153_2 := (HB.out.cell (World.block_lt_of_cell? w _ hx153_2)).trans hx153_2
          replace hx153_3 := (HB.out.cell (World.block_lt_of_cell? w _ hx153_3)).trans hx153_3
          have HR153_3 := Aside0.mk hi153_3
          have HC153_3 := Aside0.mk hl153_3
          clear hi153_3 hl153_3
          replace p153 := eq_true p153
          replace q153 := eq_true q153
          refine start_ (n := 11) (S := fun w' => w'.cell? ⟨gb148, 0, none⟩ = some (.string a0_0) ∧ w'.cell? ⟨gb148, 1, none⟩ = some (.slice A0_1 l0_1.length c0_1) ∧ w'.cell? ⟨gb149, 0, none⟩ = some (.string a1_0) ∧ w'.cell? ⟨gb149, 1, none⟩ = some (.string a1_1) ∧ w'.cell? ⟨gb149, 2, none⟩ = some (.string a1_2) ∧ w'.cell? ⟨gb149, 3, none⟩ = some (.slice (some ad153) l1_3.length c1_3) ∧ w'.cell? (ad153.add ((x6_3).toNat * 4)) = some (.string ((rd_T33 l1_3 x6_3).f0)) ∧ w'.cell? ⟨(ad153.add ((x6_3).toNat * 4)).block, (ad153.add ((x6_3).toNat * 4)).off + 1, none⟩ = some (.string ((rd_T33 l1_3 x6_3).f1)) ∧ w'.cell? ⟨(ad153.add ((x6_3).toNat * 4)).block, (ad153.add ((x6_3).toNat * 4)).off + 2, none⟩ = some (.string ((rd_T33 l1_3 x6_3).f2)) ∧ w'.cell? ⟨(ad153.add ((x6_3).toNat * 4)).block, (ad153.add ((x6_3).toNat * 4)).off + 3, none⟩ = some (.slice A153_3 ((rd_T33 l1_3 x6_3).f3).length c153_3)) (ds := []) #[false, false, false, false, false, false, false, false, false, false, false] (by kernel_rfl) rfl rfl ⟨(blk_cell BK148.out 0).trans rfl, (blk_cell BK148.out 1).trans rfl, (blk_cell BK149.out 0).trans rfl, (blk_cell BK149.out 1).trans rfl, (blk_cell BK149.out 2).trans rfl, (blk_cell BK149.out 3).trans rfl, ((HB.out.cell (World.block_lt_of_cell? w _ hw153_0)).trans hw153_0), ((HB.out.cell (World.block_lt_of_cell? w _ hw153_1)).trans hw153_1), ((HB.out.cell (World.block_lt_of_cell? w _ hw153_2)).trans hw153_2), ((HB.out.cell (World.block_lt_of_cell? w _ hw153_3)).trans hw153_3)⟩ (fun hHeld => ?_); refine with_tabW lunetteref12_named.tab7 lunetteref12_named.bits7 (fun HT_ HW_ => ?_)
          generalize wr.drew = w36 at BK148 BK149 HB HR153_3 hx153_0 hx153_1 hx153_2 hx153_3 hHeld ⊢
          refine pure_ (i := 0) (N := some 35) (v := ?_) (a' := ?_) #[true, false, false, false, false, false, false, false, false, false, false] rfl rfl (any_of HT_.out (by kernel_rfl)) (fun _ _ _ h => h) (Or.inl ⟨by rfl, ?_⟩) ?_ ?_
          rotate_left
          ·intro w'
           go_simp
           with_reducible rfl
          rotate_left
          ·simp only [Act.put, List.setIfInBounds_toArray, List.set_cons_zero, List.set_cons_succ, i64_w, i32_w]
           rfl
          refine pure_ (i := 1) (N := some 36) (v := ?_) (a' := ?_) #[true, true, false, false, false, false, false, false, false, false, false] rfl rfl (any_of HT_.out (by kernel_rfl)) (fun _ _ _ h => h) (Or.inl ⟨by rfl, ?_⟩) ?_ ?_
          rotate_left
          ·intro w'
           go_simp
           with_reducible rfl
          rotate_left
          ·simp only [Act.put, List.setIfInBounds_toArray, List.set_cons_zero, List.set_cons_succ, i64_w, i32_w]
           rfl
          refine pure_ (i := 3) (N := some 38) (v := ?_) (a' := ?_) #[true, true, false, true, false, false, false, false, false, false, false] rfl rfl (any_of HT_.out (by kernel_rfl)) (fun _ _ _ h => h) (Or.inl ⟨by rfl, ?_⟩) ?_ ?_
          rotate_left
          ·intro w'
           go_simp
           with_reducible rfl
          rotate_left
          ·simp only [Act.put, List.setIfInBounds_toArray, List.set_cons_zero, List.set_cons_succ, i64_w, i32_w]
           rfl
          refine pure_ (i := 5) (N := some 40) (v := ?_) (a' := ?_) #[true, true, false, true, false, true, false, false, false, false, false] rfl rfl (any_of HT_.out (by kernel_rfl)) (fun _ _ _ h => h) (Or.inl ⟨by rfl, ?_⟩) ?_ ?_
          rotate_left
          ·intro w'
           go_simp
           with_reducible rfl
          rotate_left
          ·simp only [Act.put, List.setIfInBounds_toArray, List.set_cons_zero, List.set_cons_succ, i64_w, i32_w]
           rfl
          refine take_ (i := 2) (N := some 37) (v := ?_) (a' := ?_) #[true, true, true, true, false, true, false, false, false, false, false] rfl rfl (take_ofW HT_.out HW_.out (by kernel_rfl)) (fun _ _ _ h => h) (Or.inl ⟨by rfl, ?_⟩) hHeld ?_ ?_
          rotate_left
          ·rintro w' ⟨s0, s1, s2, s3, s4, s5, s6, s7, s8, s9⟩
           go_simp
           with_reducible rfl
          rotate_left
          ·simp only [Act.put, List.setIfInBounds_toArray, List.set_cons_zero, List.set_cons_succ, i64_w, i32_w]
           rfl
          refine take_ (i := 4) (N := some 39) (v := ?_) (a' := ?_) #[true, true, true, true, true, true, false, false, false, false, false] rfl rfl (take_ofW HT_.out HW_.out (by kernel_rfl)) (fun _ _ _ h => h) (Or.inl ⟨by rfl, ?_⟩) hHeld ?_ ?_
          rotate_left
          ·rintro w' ⟨s0, s1, s2, s3, s4, s5, s6, s7, s8, s9⟩
           go_simp
           with_reducible rfl
          rotate_left
          ·simp only [Act.put, List.setIfInBounds_toArray, List.set_cons_zero, List.set_cons_succ, i64_w, i32_w]
           rfl
          refine pure_ (i := 6) (N := some 41) (v := ?_) (a' := ?_) #[true, true, true, true, true, true, true, false, false, false, false] rfl rfl (any_of HT_.out (by kernel_rfl)) (fun _ _ _ h => h) (Or.inl ⟨by rfl, ?_⟩) ?_ ?_
          rotate_left
          ·intro w'
           go_simp
           with_reducible rfl
          rotate_left
          ·simp only [Act.put, List.setIfInBounds_toArray, List.set_cons_zero, List.set_cons_succ, i64_w, i32_w]
           rfl
          refine take_ (i := 7) (N := some 42) (v := ?_) (a' := ?_) #[true, true, true, true, true, true, true, true, false, false, false] rfl rfl (take_ofW HT_.out HW_.out (by kernel_rfl)) (fun _ _ _ h => h) (Or.inl ⟨by rfl, ?_⟩) hHeld ?_ ?_
          rotate_left
          ·rintro w' ⟨s0, s1, s2, s3, s4, s5, s6, s7, s8, s9⟩
           go_simp
           with_reducible rfl
          rotate_left
          ·simp only [Act.put, List.setIfInBounds_toArray, List.set_cons_zero, List.set_cons_succ, i64_w, i32_w]
           rfl
          refine one_ (i := 8) (N := some 43) #[true, true, true, true, true, true, true, true, true, false, false] rfl rfl (one_of HT_.out (by kernel_rfl)) (by decide) (fun K hK => ?_)
          refine goes_ Tryz.func33 (by kernel_rfl) rfl #[.agg #[.string a0_0, .slice A0_1 l0_1.length c0_1], .agg #[.string ((rd_T33 l1_3 x6_3).f0), .string ((rd_T33 l1_3 x6_3).f1), .string ((rd_T33 l1_3 x6_3).f2), .slice A153_3 ((rd_T33 l1_3 x6_3).f3).length c153_3]] (by rfl) rfl rfl (by (try simp only [List.map_toArray, List.map_cons, List.map_nil]); (rfl)) ?_
          with_reducible refine (ih k3 (by have := HJ2.out; have := HJ13.out; have := HK3.out; omega) a0_0 _ _ l0_1 ((rd_T33 l1_3 x6_3).f0) ((rd_T33 l1_3 x6_3).f1) ((rd_T33 l1_3 x6_3).f2) _ _ ((rd_T33 l1_3 x6_3).f3) t154 _ ?side1 ?side2 ?side3 ?side4 A33.out).mono ?_
          (case side1 => repeat ((exact (Kd.C_below HR0_1.out HB.out))))
          (case side2 => exact HC0_1.out)
          (case side3 => repeat ((exact (Kd.C_below HR153_3.out HB.out))))
          (case side4 => exact HC153_3.out)
          rintro e w37 ⟨rfl, hb⟩
          refine ⟨_, rfl, ?_⟩
          have n0_ := Aside0.mk (blk_below (g := gb148) (o := .cells #[.string a0_0, .slice A0_1 l0_1.length c0_1] 30 (0, 0)) (by (with_reducible repeat ((refine blk_drew ?_))); exact BK148.out) hb)
          have n1_ := Aside0.mk (blk_below (g := gb149) (o := .cells #[.string a1_0, .string a1_1, .string a1_2, .slice (some ad153) l1_3.length c1_3] 33 (0, 0)) (by (with_reducible repeat ((refine blk_drew ?_))); exact BK149.out) hb)
          have n2_ := Aside0.mk (below_step (by repeat ((with_reducible (exact HB.out)))) hb)
          clear BK148
          clear BK149
          clear HB
          have BK148 := n0_
          have BK149 := n1_
          have HB := n2_
          clear n0_ n1_ n2_
          (try clear hb)
          refine hK.out _ _ ⟨(blk_cell BK148.out 0).trans rfl, (blk_cell BK148.out 1).trans rfl, (blk_cell BK149.out 0).trans rfl, (blk_cell BK149.out 1).trans rfl, (blk_cell BK149.out 2).trans rfl, (blk_cell BK149.out 3).trans rfl, ((HB.out.cell (World.block_lt_of_cell? w _ hw153_0)).trans hw153_0), ((HB.out.cell (World.block_lt_of_cell? w _ hw153_1)).trans hw153_1), ((HB.out.cell (World.block_lt_of_cell? w _ hw153_2)).trans hw153_2), ((HB.out.cell (World.block_lt_of_cell? w _ hw153_3)).trans hw153_3)⟩ (fun hHeld => ?_)
          clear hK K
          refine norm_ (a' := ?_) ?_ ?_
          rotate_left
          ·show Act.put _ (some 43) _ = _
           simp only [Act.put, List.setIfInBounds_toArray, List.set_cons_zero, List.set_cons_succ, i64_w, i32_w]
           rfl
          refine pure_ (i := 9) (N := some 44) (v := ?_) (a' := ?_) #[true, true, true, true, true, true, true, true, true, true, false] rfl rfl (any_of HT_.out (by kernel_rfl)) (fun _ _ _ h => h) (Or.inl ⟨by rfl, ?_⟩) ?_ ?_
          rotate_left
          ·intro w'
           go_simp
           with_reducible rfl
          rotate_left
          ·simp only [Act.put, List.setIfInBounds_toArray, List.set_cons_zero, List.set_cons_succ, i64_w, i32_w]
           rfl
          refine pure_ (i := 10) (N := some 5) (v := ?_) (a' := ?_) #[true, true, true, true, true, true, true, true, true, true, true] rfl rfl (any_of HT_.out (by kernel_rfl)) (fun _ _ _ h => h) (Or.inl ⟨by rfl, ?_⟩) ?_ ?_
          rotate_left
          ·intro w'
           go_simp
           with_reducible rfl
          rotate_left
          ·simp only [Act.put, List.setIfInBounds_toArray, List.set_cons_zero, List.set_cons_succ, i64_w, i32_w]
           rfl
          refine done_ (done_of HT_.out (by kernel_rfl)) ?_
          try go_wp2
          go_roundg k3
          case measure => have := HJ2.out; have := HJ13.out; have := HK3.out; omega
          case rel => exact ⟨(t154), (wrap64 (x6_3 + 1)), (by (rfl)), (by (rfl)), H', ⟨by have := HJ2.out; have := HJ13.out; have := HK3.out; omega⟩, ⟨by (with_reducible repeat ((refine blk_drew ?_))); exact BK148.out⟩, ⟨by (with_reducible repeat ((refine blk_drew ?_))); exact BK149.out⟩, ⟨by repeat ((with_reducible (exact HB.out)))⟩⟩
         ·rw [if_neg c32] at H
          exact absurd H (by simp)
        ·replace c31 := Bool.eq_false_iff.mpr c31
         subst c31
         have H1 : (lunetteref12_named.l0 k3 false (wrap64 (x6_3 + 1)) a0_0 l0_1 a1_0 a1_1 a1_2 l1_3) = some r := by rw [if_neg (show ¬ (false = true) by decide)] at H; exact H
         clear H
         have H := H1
         clear H1
         have H' := Aside0.mk H
         clear H
         have hnb38 := NB149_148.out
         have hnc38 := NB148_149.out
         have hcz39_0 : wr.cell? ⟨gb149, 0, none⟩ = some (.string a1_0) := (blk_cell BK149.out 0).trans rfl
         have hcz39_1 : wr.cell? ⟨gb149, 1, none⟩ = some (.string a1_1) := (blk_cell BK149.out 1).trans rfl
         have hcz39_2 : wr.cell? ⟨gb149, 2, none⟩ = some (.string a1_2) := (blk_cell BK149.out 2).trans rfl
         have hcz39_3 : wr.cell? ⟨gb149, 3, none⟩ = some (.slice A1_3 l1_3.length c1_3) := (blk_cell BK149.out 3).trans rfl
         have hfz39_0 := blk_frozen BK149.out 0
         have hfz39_1 := blk_frozen BK149.out 1
         have hfz39_2 := blk_frozen BK149.out 2
         have hfz39_3 := blk_frozen BK149.out 3
         try go_wp2
         have n0_ := Aside0.mk (blk_drew BK148.out)
         have n1_ := Aside0.mk (blk_drew BK149.out)
         have n2_ := Aside0.mk (below_drew1 HB.out)
         clear BK148
         clear BK149
         clear HB
         have BK148 := n0_
         have BK149 := n1_
         have HB := n2_
         clear n0_ n1_ n2_
         refine start_ (n := 11) (S := fun w' => True) (ds := []) #[false, false, false, false, false, false, false, false, false, false, false] (by kernel_rfl) rfl rfl trivial (fun hHeld => ?_); refine with_tabW lunetteref12_named.tab7 lunetteref12_named.bits7 (fun HT_ HW_ => ?_)
         generalize wr.drew = w40 at BK148 BK149 HB hHeld ⊢
         refine pure_ (i := 0) (N := some 35) (v := ?_) (a' := ?_) #[true, false, false, false, false, false, false, false, false, false, false] rfl rfl (any_of HT_.out (by kernel_rfl)) (fun _ _ _ h => h) (Or.inl ⟨by rfl, ?_⟩) ?_ ?_
         rotate_left
         ·intro w'
          go_simp
          with_reducible rfl
         rotate_left
         ·simp only [Act.put, List.setIfInBounds_toArray, List.set_cons_zero, List.set_cons_succ, i64_w, i32_w]
          rfl
         refine pure_ (i := 1) (N := some 36) (v := ?_) (a' := ?_) #[true, true, false, false, false, false, false, false, false, false, false] rfl rfl (any_of HT_.out (by kernel_rfl)) (fun _ _ _ h => h) (Or.inl ⟨by rfl, ?_⟩) ?_ ?_
         rotate_left
         ·intro w'
          go_simp
          with_reducible rfl
         rotate_left
         ·simp only [Act.put, List.setIfInBounds_toArray, List.set_cons_zero, List.set_cons_succ, i64_w, i32_w]
          rfl
         refine pure_ (i := 2) (N := some 37) (v := undef) (a' := ?_) #[true, true, true, false, false, false, false, false, false, false, false] rfl rfl (any_of HT_.out (by kernel_rfl)) (fun _ _ _ h => h) (Or.inr ⟨by rfl, rfl⟩) ?_ ?_
         rotate_left
         ·simp only [Act.put, List.setIfInBounds_toArray, List.set_cons_zero, List.set_cons_succ, i64_w, i32_w]
          rfl
         refine pure_ (i := 3) (N := some 38) (v := undef) (a' := ?_) #[true, true, true, true, false, false, false, false, false, false, false] rfl rfl (any_of HT_.out (by kernel_rfl)) (fun _ _ _ h => h) (Or.inr ⟨by rfl, rfl⟩) ?_ ?_
         rotate_left
         ·simp only [Act.put, List.setIfInBounds_toArray, List.set_cons_zero, List.set_cons_succ, i64_w, i32_w]
          rfl
         refine pure_ (i := 4) (N := some 39) (v := undef) (a' := ?_) #[true, true, true, true, true, false, false, false, false, false, false] rfl rfl (any_of HT_.out (by kernel_rfl)) (fun _ _ _ h => h) (Or.inr ⟨by rfl, rfl⟩) ?_ ?_
         rotate_left
         ·simp only [Act.put, List.setIfInBounds_toArray, List.set_cons_zero, List.set_cons_succ, i64_w, i32_w]
          rfl
         refine pure_ (i := 5) (N := some 40) (v := undef) (a' := ?_) #[true, true, true, true, true, true, false, false, false, false, false] rfl rfl (any_of HT_.out (by kernel_rfl)) (fun _ _ _ h => h) (Or.inr ⟨by rfl, rfl⟩) ?_ ?_
         rotate_left
         ·simp only [Act.put, List.setIfInBounds_toArray, List.set_cons_zero, List.set_cons_succ, i64_w, i32_w]
          rfl
         refine pure_ (i := 6) (N := some 41) (v := undef) (a' := ?_) #[true, true, true, true, true, true, true, false, false, false, false] rfl rfl (any_of HT_.out (by kernel_rfl)) (fun _ _ _ h => h) (Or.inr ⟨by rfl, rfl⟩) ?_ ?_
         rotate_left
         ·simp only [Act.put, List.setIfInBounds_toArray, List.set_cons_zero, List.set_cons_succ, i64_w, i32_w]
          rfl
         refine pure_ (i := 7) (N := some 42) (v := undef) (a' := ?_) #[true, true, true, true, true, true, true, true, false, false, false] rfl rfl (any_of HT_.out (by kernel_rfl)) (fun _ _ _ h => h) (Or.inr ⟨by rfl, rfl⟩) ?_ ?_
         rotate_left
         ·simp only [Act.put, List.setIfInBounds_toArray, List.set_cons_zero, List.set_cons_succ, i64_w, i32_w]
          rfl
         refine pure_ (i := 8) (N := some 43) (v := undef) (a' := ?_) #[true, true, true, true, true, true, true, true, true, false, false] rfl rfl (any_of HT_.out (by kernel_rfl)) (fun _ _ _ h => h) (Or.inr ⟨by rfl, rfl⟩) ?_ ?_
         rotate_left
         ·simp only [Act.put, List.setIfInBounds_toArray, List.set_cons_zero, List.set_cons_succ, i64_w, i32_w]
          rfl
         refine pure_ (i := 9) (N := some 44) (v := ?_) (a' := ?_) #[true, true, true, true, true, true, true, true, true, true, false] rfl rfl (any_of HT_.out (by kernel_rfl)) (fun _ _ _ h => h) (Or.inl ⟨by rfl, ?_⟩) ?_ ?_
         rotate_left
         ·intro w'
          go_simp
          with_reducible rfl
         rotate_left
         ·simp only [Act.put, List.setIfInBounds_toArray, List.set_cons_zero, List.set_cons_succ, i64_w, i32_w]
          rfl
         refine pure_ (i := 10) (N := some 5) (v := ?_) (a' := ?_) #[true, true, true, true, true, true, true, true, true, true, true] rfl rfl (any_of HT_.out (by kernel_rfl)) (fun _ _ _ h => h) (Or.inl ⟨by rfl, ?_⟩) ?_ ?_
         rotate_left
         ·intro w'
          go_simp
          with_reducible rfl
         rotate_left
         ·simp only [Act.put, List.setIfInBounds_toArray, List.set_cons_zero, List.set_cons_succ, i64_w, i32_w]
          rfl
         refine done_ (done_of HT_.out (by kernel_rfl)) ?_
         try go_wp2
         go_roundg k3
         case measure => have := HJ2.out; have := HJ13.out; have := HK3.out; omega
         case rel => exact ⟨(false), (wrap64 (x6_3 + 1)), (by (rfl)), (by (rfl)), H', ⟨by have := HJ2.out; have := HJ13.out; have := HK3.out; omega⟩, ⟨by (with_reducible repeat ((refine blk_drew ?_))); exact BK148.out⟩, ⟨by (with_reducible repeat ((refine blk_drew ?_))); exact BK149.out⟩, ⟨by repeat ((with_reducible (exact HB.out)))⟩⟩
       ·rw [if_neg c30] at H
        have c30b0 : decide (x6_3 < (l1_3.length : Int)) = false := decide_eq_false c30
        clear c30
        obtain rfl := Option.some.inj H
        have hnb41 := NB149_148.out
        have hnc41 := NB148_149.out
        have hcz42_0 : wr.cell? ⟨gb149, 0, none⟩ = some (.string a1_0) := (blk_cell BK149.out 0).trans rfl
        have hcz42_1 : wr.cell? ⟨gb149, 1, none⟩ = some (.string a1_1) := (blk_cell BK149.out 1).trans rfl
        have hcz42_2 : wr.cell? ⟨gb149, 2, none⟩ = some (.string a1_2) := (blk_cell BK149.out 2).trans rfl
        have hcz42_3 : wr.cell? ⟨gb149, 3, none⟩ = some (.slice A1_3 l1_3.length c1_3) := (blk_cell BK149.out 3).trans rfl
        have hfz42_0 := blk_frozen BK149.out 0
        have hfz42_1 := blk_frozen BK149.out 1
        have hfz42_2 := blk_frozen BK149.out 2
        have hfz42_3 := blk_frozen BK149.out 3
        go_wp2
        go_ret
        exact ⟨by (rfl), by repeat ((with_reducible (exact HB.out)))⟩
end Go.Proofs.YtjcipbdocbomjaaGreatDoor.K
