/- Texts of this claim's proof, put together: P6 QD P14 P15 QF; conditions: as each states. -/
import Derived.Test.YtjcipbdocbomjaaGreatDoorZA
set_option linter.unusedVariables false
set_option linter.unusedSimpArgs false
open Go.RowKit Go.Proofs.YtjcipbdocbomjaaGreatDoorW.PrintWords Go.Proofs.YtjcipbdocbomjaaGreatDoorW.PrintLast Go.Proofs.YtjcipbdocbomjaaGreatDoorW.PrintMore
namespace Go.Proofs.YtjcipbdocbomjaaGreatDoor.K
attribute [local go_sem] max2_int min2_int max_two min_two max_three min_three max_four min_four
mutual
def lunetteref12_Deep.l0 : Nat → Int → Int → ByteArray → ByteArray → ByteArray → List (S33) → Option (Int)
 | 0, _, _, _, _, _, _ => none
 | k + 1, x3, x4, x143000, x143001, x143002, x143003 => if x4 < (x143003.length : Int) then (if 0 ≤ x4 then ((lunetteref12_Deep.f k ((rd_T33 x143003 x4).f0) ((rd_T33 x143003 x4).f1) ((rd_T33 x143003 x4).f2) ((rd_T33 x143003 x4).f3)).bind fun t144 => (if t144 > x3 then (lunetteref12_Deep.l0 k t144 (wrap64 (x4 + 1)) x143000 x143001 x143002 x143003) else (lunetteref12_Deep.l0 k x3 (wrap64 (x4 + 1)) x143000 x143001 x143002 x143003))) else (none)) else (some (wrap64 (1 + x3)))
def lunetteref12_Deep.f : Nat → ByteArray → ByteArray → ByteArray → List (S33) → Option (Int)
 | 0, _, _, _, _ => none
 | k + 1, a0_0, a0_1, a0_2, l0_3 => lunetteref12_Deep.l0 k 0 0 a0_0 a0_1 a0_2 l0_3
end
set_option maxHeartbeats 8000000 in
set_option maxRecDepth 100000 in
theorem lunetteref12_Deep.calls (k : Nat) : ∀ (a0_0 : ByteArray) (a0_1 : ByteArray) (a0_2 : ByteArray) (A0_3 : Option Addr) (c0_3 : Nat) (l0_3 : List (S33)) (r : Int) (w : World) (hr0_3 : Kd.C k33 w A0_3 l0_3.length l0_3) (hc0_3 : l0_3.length ≤ c0_3) (h : lunetteref12_Deep.f k a0_0 a0_1 a0_2 l0_3 = some r),
  Calls Tryz.prog 20 #[.agg #[.string a0_0, .string a0_1, .string a0_2, .slice A0_3 l0_3.length c0_3]] w fun e w' => e = .returned (.int .i64 r) ∧ Below w.heap.size w w' := by
 induction k using Nat.strongRecOn with
 | _ k ih =>
 intro a0_0 a0_1 a0_2 A0_3 c0_3 l0_3 r w hr0_3 hc0_3 h
 cases k with
 | zero => exact absurd h (by simp [lunetteref12_Deep.f])
 | succ k =>
 simp only [lunetteref12_Deep.f] at h
 have hu33 := Tryz.underlying33
 have HR0_3 := Aside0.mk hr0_3
 have HC0_3 := Aside0.mk hc0_3
 clear hr0_3 hc0_3
 have HB := Aside0.mk (Below.refl w.heap.size w)
 have H : (lunetteref12_Deep.l0 k 0 0 a0_0 a0_1 a0_2 l0_3) = some r := h
 clear h
 have H' := Aside0.mk H
 clear H
 go_enter Tryz.func20, Tryz.ntmps20
 go_wp2_with (((with_reducible refine gate_dst (N := 1) rfl ?_); refine box_event ?hg (N := 1) ?hd (cs := #[.string a0_0, .string a0_1, .string a0_2, .slice A0_3 l0_3.length c0_3]) (t := 33) ?hr ?_; (case hd => rfl); (case hg => rfl); (case hr => (go_simp; done)); intro gb142 hg w2 hbox hb; have n0_ := Aside0.mk (below_step (by repeat ((with_reducible (exact HB.out)))) hb); have n1_ := Aside0.mk (hbox); have n2_ := Aside0.mk ((by rw [hg]; exact (below_size (by repeat ((with_reducible (exact HB.out))))) : w.heap.size ≤ gb142)); have n3_ := Aside0.mk ((by rw [hg]; exact (below_size (by repeat ((with_reducible (exact HB.out))))) : w.heap.size ≤ gb142)); clear HB; have HB := n0_; have BK142 := n1_; have GW142 := n2_; have GE142 := n3_; clear n0_ n1_ n2_ n3_; clear hb hbox hg))
 go_loopg [3, 4] k (fun kq v3 v4 w' => ∃ (x3_1 : Int) (x4_1 : Int), v3 = .int .i64 x3_1 ∧ v4 = .int .i64 x4_1 ∧ Aside0 (lunetteref12_Deep.l0 kq x3_1 x4_1 a0_0 a0_1 a0_2 l0_3 = some r) ∧ Aside0 (kq ≤ k) ∧ Aside0 (w'.heap[gb142]? = some (.cells #[.string a0_0, .string a0_1, .string a0_2, (.slice A0_3 l0_3.length c0_3)] 33 (0, 0))) ∧ Aside0 (Below w.heap.size w w'))
 case atStart => exact ⟨(0), (0), (by (rfl)), (by (rfl)), H', ⟨Nat.le_refl _⟩, ⟨by (with_reducible repeat ((refine blk_drew ?_))); exact BK142.out⟩, ⟨by repeat ((with_reducible (exact HB.out)))⟩⟩
 case round =>
  clear H'
  obtain ⟨x3_1, x4_1, rfl, rfl, HA, HK1, BK142, HB⟩ := hrel
  cases gk with
  | zero => exact absurd HA.out (by simp [lunetteref12_Deep.l0])
  | succ k1 =>
   have H := HA.out
   clear HA
   simp only [lunetteref12_Deep.l0] at H
   by_cases c3 : x4_1 < (l0_3.length : Int)
   ·rw [if_pos c3] at H
    have c3b0 : decide (x4_1 < (l0_3.length : Int)) = true := decide_eq_true c3
    clear c3
    by_cases c4 : 0 ≤ x4_1
    ·rw [if_pos c4] at H
     have c4b0 : decide (0 ≤ x4_1) = true := decide_eq_true c4
     clear c4
     replace H := Option.bind_eq_some_iff.mp H
     obtain ⟨t144, A50, H⟩ := H
     replace H : (if t144 > x3_1 then (lunetteref12_Deep.l0 k1 t144 (wrap64 (x4_1 + 1)) a0_0 a0_1 a0_2 l0_3) else (lunetteref12_Deep.l0 k1 x3_1 (wrap64 (x4_1 + 1)) a0_0 a0_1 a0_2 l0_3)) = some r := H
     have A5 := Aside0.mk A50
     clear A50
     by_cases c6 : t144 > x3_1
     ·rw [if_pos c6] at H
      have c6b0 : decide (x3_1 < t144) = true := decide_eq_true c6
      clear c6
      have H' := Aside0.mk H
      clear H
      have hcz7_0 : wr.cell? ⟨gb142, 0, none⟩ = some (.string a0_0) := (blk_cell BK142.out 0).trans rfl
      have hcz7_1 : wr.cell? ⟨gb142, 1, none⟩ = some (.string a0_1) := (blk_cell BK142.out 1).trans rfl
      have hcz7_2 : wr.cell? ⟨gb142, 2, none⟩ = some (.string a0_2) := (blk_cell BK142.out 2).trans rfl
      have hcz7_3 : wr.cell? ⟨gb142, 3, none⟩ = some (.slice A0_3 l0_3.length c0_3) := (blk_cell BK142.out 3).trans rfl
      have hfz7_0 := blk_frozen BK142.out 0
      have hfz7_1 := blk_frozen BK142.out 1
      have hfz7_2 := blk_frozen BK142.out 2
      have hfz7_3 := blk_frozen BK142.out 3
      have p143 : 0 ≤ (x4_1 : Int) := of_decide_eq_true (by (with_reducible assumption))
      have q143 : x4_1 < (l0_3.length : Int) := of_decide_eq_true (by (with_reducible assumption))
      obtain ⟨ad143, A143_3, c143_3, e143, hx143_0, hx143_1, hx143_2, hx143_3, hl143_3, hi143_3⟩ := at_T33 HR0_3.out x4_1 p143 q143
      cases e143
      replace hx143_0 := (HB.out.cell (World.block_lt_of_cell? w _ hx143_0)).trans hx143_0
      replace hx143_1 := (HB.out.cell (World.block_lt_of_cell? w _ hx143_1)).trans hx143_1
      replace hx143_2 := (HB.out.cell (World.block_lt_of_cell? w _ hx143_2)).trans hx143_2
      replace hx143_3 := (HB.out.cell (World.block_lt_of_cell? w _ hx143_3)).trans hx143_3
      have HR143_3 := Aside0.mk hi143_3
      have HC143_3 := Aside0.mk hl143_3
      clear hi143_3 hl143_3
      replace p143 := eq_true p143
      replace q143 := eq_true q143
      go_wp2_with (((with_reducible refine gate_callee (f := 20) rfl ?_); refine goesL_ (some 18) rfl rfl Tryz.func20 (by kernel_rfl) rfl #[.agg #[.string ((rd_T33 l0_3 x4_1).f0), .string ((rd_T33 l0_3 x4_1).f1), .string ((rd_T33 l0_3 x4_1).f2), .slice A143_3 ((rd_T33 l0_3 x4_1).f3).length c143_3]] rfl (by (try simp only [List.map_toArray, List.map_cons, List.map_nil]); (rfl)) ?_; (with_reducible refine (ih k1 (by have := HK1.out; omega) ((rd_T33 l0_3 x4_1).f0) ((rd_T33 l0_3 x4_1).f1) ((rd_T33 l0_3 x4_1).f2) _ _ ((rd_T33 l0_3 x4_1).f3) t144 _ ?side1 ?side2 A5.out).mono ?_); (case side1 => repeat ((exact (Kd.C_below HR143_3.out HB.out)))); (case side2 => exact HC143_3.out); rintro e w8 ⟨rfl, hb⟩; refine ⟨_, rfl, ?_⟩; have n0_ := Aside0.mk (blk_below (g := gb142) (o := .cells #[.string a0_0, .string a0_1, .string a0_2, .slice (some ad143) l0_3.length c0_3] 33 (0, 0)) (by (with_reducible repeat ((refine blk_drew ?_))); exact BK142.out) hb); have n1_ := Aside0.mk (below_step (by repeat ((with_reducible (exact HB.out)))) hb); clear BK142; clear HB; have BK142 := n0_; have HB := n1_; clear n0_ n1_; (try clear hb)))
      go_roundg k1
      case measure => have := HK1.out; omega
      case rel => exact ⟨(t144), (wrap64 (x4_1 + 1)), (by (rfl)), (by (rfl)), H', ⟨by have := HK1.out; omega⟩, ⟨by (with_reducible repeat ((refine blk_drew ?_))); exact BK142.out⟩, ⟨by repeat ((with_reducible (exact HB.out)))⟩⟩
     ·rw [if_neg c6] at H
      have c6b0 : decide (x3_1 < t144) = false := decide_eq_false c6
      clear c6
      have H' := Aside0.mk H
      clear H
      have hcz9_0 : wr.cell? ⟨gb142, 0, none⟩ = some (.string a0_0) := (blk_cell BK142.out 0).trans rfl
      have hcz9_1 : wr.cell? ⟨gb142, 1, none⟩ = some (.string a0_1) := (blk_cell BK142.out 1).trans rfl
      have hcz9_2 : wr.cell? ⟨gb142, 2, none⟩ = some (.string a0_2) := (blk_cell BK142.out 2).trans rfl
      have hcz9_3 : wr.cell? ⟨gb142, 3, none⟩ = some (.slice A0_3 l0_3.length c0_3) := (blk_cell BK142.out 3).trans rfl
      have hfz9_0 := blk_frozen BK142.out 0
      have hfz9_1 := blk_frozen BK142.out 1
      have hfz9_2 := blk_frozen BK142.out 2
      have hfz9_3 := blk_frozen BK142.out 3
      have p143 : 0 ≤ (x4_1 : Int) := of_decide_eq_true (by (with_reducible assumption))
      have q143 : x4_1 < (l0_3.length : Int) := of_decide_eq_true (by (with_reducible assumption))
      obtain ⟨ad143, A143_3, c143_3, e143, hx143_0, hx143_1, hx143_2, hx143_3, hl143_3, hi143_3⟩ := at_T33 HR0_3.out x4_1 p143 q143
      cases e143
      replace hx143_0 := (HB.out.cell (World.block_lt_of_cell? w _ hx143_0)).trans hx143_0
      replace hx143_1 := (HB.out.cell (World.block_lt_of_cell? w _ hx143_1)).trans hx143_1
      replace hx143_2 := (HB.out.cell (World.block_lt_of_cell? w _ hx143_2)).trans hx143_2
      replace hx143_3 := (HB.out.cell (World.block_lt_of_cell? w _ hx143_3)).trans hx143_3
      have HR143_3 := Aside0.mk hi143_3
      have HC143_3 := Aside0.mk hl143_3
      clear hi143_3 hl143_3
      replace p143 := eq_true p143
      replace q143 := eq_true q143
      go_wp2_with (((with_reducible refine gate_callee (f := 20) rfl ?_); refine goesL_ (some 18) rfl rfl Tryz.func20 (by kernel_rfl) rfl #[.agg #[.string ((rd_T33 l0_3 x4_1).f0), .string ((rd_T33 l0_3 x4_1).f1), .string ((rd_T33 l0_3 x4_1).f2), .slice A143_3 ((rd_T33 l0_3 x4_1).f3).length c143_3]] rfl (by (try simp only [List.map_toArray, List.map_cons, List.map_nil]); (rfl)) ?_; (with_reducible refine (ih k1 (by have := HK1.out; omega) ((rd_T33 l0_3 x4_1).f0) ((rd_T33 l0_3 x4_1).f1) ((rd_T33 l0_3 x4_1).f2) _ _ ((rd_T33 l0_3 x4_1).f3) t144 _ ?side1 ?side2 A5.out).mono ?_); (case side1 => repeat ((exact (Kd.C_below HR143_3.out HB.out)))); (case side2 => exact HC143_3.out); rintro e w10 ⟨rfl, hb⟩; refine ⟨_, rfl, ?_⟩; have n0_ := Aside0.mk (blk_below (g := gb142) (o := .cells #[.string a0_0, .string a0_1, .string a0_2, .slice (some ad143) l0_3.length c0_3] 33 (0, 0)) (by (with_reducible repeat ((refine blk_drew ?_))); exact BK142.out) hb); have n1_ := Aside0.mk (below_step (by repeat ((with_reducible (exact HB.out)))) hb); clear BK142; clear HB; have BK142 := n0_; have HB := n1_; clear n0_ n1_; (try clear hb)))
      go_roundg k1
      case measure => have := HK1.out; omega
      case rel => exact ⟨(x3_1), (wrap64 (x4_1 + 1)), (by (rfl)), (by (rfl)), H', ⟨by have := HK1.out; omega⟩, ⟨by (with_reducible repeat ((refine blk_drew ?_))); exact BK142.out⟩, ⟨by repeat ((with_reducible (exact HB.out)))⟩⟩
    ·rw [if_neg c4] at H
     exact absurd H (by simp)
   ·rw [if_neg c3] at H
    have c3b0 : decide (x4_1 < (l0_3.length : Int)) = false := decide_eq_false c3
    clear c3
    obtain rfl := Option.some.inj H
    have hcz11_0 : wr.cell? ⟨gb142, 0, none⟩ = some (.string a0_0) := (blk_cell BK142.out 0).trans rfl
    have hcz11_1 : wr.cell? ⟨gb142, 1, none⟩ = some (.string a0_1) := (blk_cell BK142.out 1).trans rfl
    have hcz11_2 : wr.cell? ⟨gb142, 2, none⟩ = some (.string a0_2) := (blk_cell BK142.out 2).trans rfl
    have hcz11_3 : wr.cell? ⟨gb142, 3, none⟩ = some (.slice A0_3 l0_3.length c0_3) := (blk_cell BK142.out 3).trans rfl
    have hfz11_0 := blk_frozen BK142.out 0
    have hfz11_1 := blk_frozen BK142.out 1
    have hfz11_2 := blk_frozen BK142.out 2
    have hfz11_3 := blk_frozen BK142.out 3
    go_wp2
    go_ret
    exact ⟨by (rfl), by repeat ((with_reducible (exact HB.out)))⟩
end Go.Proofs.YtjcipbdocbomjaaGreatDoor.K
namespace Go.Proofs.YtjcipbdocbomjaaGreatDoor.K
theorem refDeep_l0 (l : List S33) (a b c : ByteArray) (hl : l.length ≤ 1099511627776) (IH : ∀ y ∈ l, Ev (fun k => lunetteref12_Deep.f k y.f0 y.f1 y.f2 y.f3) (deepW y)) (m : Nat) :
  ∀ (i : Nat) (acc : Int), i + m = l.length → Ev (fun k => lunetteref12_Deep.l0 k acc (i : Int) a b c l) (wrap64 ((l.drop i).foldl (fun n y => mx n (deepW y)) acc + 1)) := by
 induction m with
 | zero =>
  intro i acc h
  rw [List.drop_eq_nil_of_le (by omega)]
  exact Ev.step (f := fun _ => some (wrap64 (1 + acc))) (fun k => by simp only [lunetteref12_Deep.l0]; rw [if_neg (by omega)]) (by rw [List.foldl_nil, Int.add_comm]; exact Ev.now _)
 | succ m ih =>
  intro i acc h
  have hi : i < l.length := by omega
  rw [List.drop_eq_getElem_cons hi, List.foldl_cons]
  refine Ev.step (f := fun k => (lunetteref12_Deep.f k l[i].f0 l[i].f1 l[i].f2 l[i].f3).bind fun t => lunetteref12_Deep.l0 k (mx acc t) ((i + 1 : Nat) : Int) a b c l) (fun k => ?_) ?_
  ·simp only [lunetteref12_Deep.l0]
   rw [if_pos (by omega), if_pos (by omega), rd33 hi, wrap_succ hi hl]
   congr 1
   funext t
   unfold mx
   by_cases ht : t > acc
   ·rw [if_pos ht, if_pos (by omega)]
   ·rw [if_neg ht, if_neg (by omega)]
  ·exact (IH _ (List.getElem_mem hi)).bind (ih (i + 1) _ (by omega))
theorem refDeep_ev (x : S33) : smallE x = true → Ev (fun k => lunetteref12_Deep.f k x.f0 x.f1 x.f2 x.f3) (deepW x) := by
 induction x using S33.ind with
 | h x ih =>
  intro hs
  rw [deepW_eq]
  exact Ev.step (f := fun k => lunetteref12_Deep.l0 k 0 ((0 : Nat) : Int) x.f0 x.f1 x.f2 x.f3) (fun k => by simp only [lunetteref12_Deep.f]; rfl)
   (refDeep_l0 x.f3 _ _ _ (smallE_len hs) (fun y hy => ih y hy (smallE_mem hs hy)) x.f3.length 0 0 (by omega))
end Go.Proofs.YtjcipbdocbomjaaGreatDoor.K
namespace Go.Proofs.YtjcipbdocbomjaaGreatDoor.K
attribute [local go_sem] max2_int min2_int max_two min_two max_three min_three max_four min_four
mutual
def lunetteref12_Find.l0 : Nat → List (S30) → ByteArray → ByteArray → Int → Option (ByteArray × ByteArray × ByteArray × (List (S33)) × Bool)
 | 0, _, _, _, _ => none
 | k + 1, x0, x1, x2, x8 => if x8 < (x0.length : Int) then (if 0 ≤ x8 then (if ((rd_T30 x0 x8).f0).toList = x1.toList then (lunetteref12_Find.l1 k x0 x2 x8 0) else (lunetteref12_Find.l0 k x0 x1 x2 (wrap64 (x8 + 1)))) else (none)) else (some ((⟨#[]⟩ : ByteArray), (⟨#[]⟩ : ByteArray), (⟨#[]⟩ : ByteArray), ([] : List (S33)), false))
def lunetteref12_Find.l1 : Nat → List (S30) → ByteArray → Int → Int → Option (ByteArray × ByteArray × ByteArray × (List (S33)) × Bool)
 | 0, _, _, _, _ => none
 | k + 1, x0, x2, x8, x9 => if 0 ≤ x8 then (if x8 < (x0.length : Int) then (if x9 < (((rd_T30 x0 x8).f1).length : Int) then (if 0 ≤ x9 then (if ((rd_T35 ((rd_T30 x0 x8).f1) x9).f0).toList = x2.toList then (some ((rd_T35 ((rd_T30 x0 x8).f1) x9).f1.f0, (rd_T35 ((rd_T30 x0 x8).f1) x9).f1.f1, (rd_T35 ((rd_T30 x0 x8).f1) x9).f1.f2, (rd_T35 ((rd_T30 x0 x8).f1) x9).f1.f3, true)) else (lunetteref12_Find.l1 k x0 x2 x8 (wrap64 (x9 + 1)))) else (none)) else (some ((⟨#[]⟩ : ByteArray), (⟨#[]⟩ : ByteArray), (⟨#[]⟩ : ByteArray), ([] : List (S33)), false))) else (none)) else (none)
end
def lunetteref12_Find.f (k : Nat) (l0 : List (S30)) (a1 : ByteArray) (a2 : ByteArray) : Option (ByteArray × ByteArray × ByteArray × (List (S33)) × Bool) := lunetteref12_Find.l0 k l0 a1 a2 0
set_option maxHeartbeats 8000000 in
set_option maxRecDepth 100000 in
theorem lunetteref12_Find.calls (k : Nat) (P0_ : Nat → Prop) (A0 : Option Addr) (c0 : Nat) (l0 : List (S30)) (a1 : ByteArray) (a2 : ByteArray) (r1 : ByteArray) (r2 : ByteArray) (r3 : ByteArray) (r4 : List (S33)) (r5 : Bool) (w : World) (hs0 : Kd.V k30 30 w w.heap.size (fun k_ => P0_ k_) (.slice A0 l0.length c0) l0) (h : lunetteref12_Find.f k l0 a1 a2 = some (r1, r2, r3, r4, r5)) :
  Calls Tryz.prog 18 #[.slice A0 l0.length c0, .string a1, .string a2] w fun e w' => ∃ v3_ : Value, e = .returned (.tuple #[.agg #[.string r1, .string r2, .string r3, v3_], .bool r5]) ∧ Kd.V k33 33 w' w.heap.size (fun k_ => (P0_ k_ ∨ w.heap.size ≤ k_)) v3_ r4 ∧ Below w.heap.size w w' := by
 have hu33 := Tryz.underlying33
 have HO0 := Aside0.mk (show Kd.V k30 30 w w.heap.size (fun k_ => (P0_ k_ ∨ w.heap.size ≤ k_)) (.slice A0 l0.length c0) l0 from Kd.V_mono hs0 (fun k_ hk => .inl hk))
 have HB := Aside0.mk (Below.refl w.heap.size w)
 have H : (lunetteref12_Find.l0 k l0 a1 a2 0) = some (r1, r2, r3, r4, r5) := h
 clear h
 have H' := Aside0.mk H
 clear H
 go_enter Tryz.func18, Tryz.ntmps18
 go_wp2_with (((with_reducible refine gate_dst (N := 6) rfl ?_); refine box_event ?hg (N := 6) ?hd (cs := #[.string (⟨#[]⟩ : ByteArray), .string (⟨#[]⟩ : ByteArray), .string (⟨#[]⟩ : ByteArray), .slice none 0 0]) (t := 33) ?hr ?_; (case hd => rfl); (case hg => rfl); (case hr => (go_simp; done)); intro gb150 hg w4 hbox hb; have n0_ := Aside0.mk (Kd.V_below (Kd.V_elderB (by (with_reducible repeat ((apply Kd.V_drew))); exact HO0.out) gb150 (Nat.le_of_eq hg.symm)) hb); have n1_ := Aside0.mk (below_step (by repeat ((with_reducible (exact HB.out)))) hb); have n2_ := Aside0.mk (hbox); have n3_ := Aside0.mk ((by rw [hg]; exact (below_size (by repeat ((with_reducible (exact HB.out))))) : w.heap.size ≤ gb150)); have n4_ := Aside0.mk ((by rw [hg]; exact (below_size (by repeat ((with_reducible (exact HB.out))))) : w.heap.size ≤ gb150)); clear HO0; clear HB; have HO0 := n0_; have HB := n1_; have BK150 := n2_; have GW150 := n3_; have GE150 := n4_; clear n0_ n1_ n2_ n3_ n4_; clear hb hbox hg))
 go_loopg [8] k (fun kq v8 w' => ∃ (x8_1 : Int) (x151000_1 : ByteArray) (x151001_1 : ByteArray) (x151002_1 : ByteArray), v8 = .int .i64 x8_1 ∧ Aside0 (lunetteref12_Find.l0 kq l0 a1 a2 x8_1 = some (r1, r2, r3, r4, r5)) ∧ Aside0 (kq ≤ k) ∧ Aside0 (Kd.V k30 30 w' w.heap.size (fun k_ => (P0_ k_ ∨ w.heap.size ≤ k_) ∧ k_ ≠ gb150) (.slice A0 l0.length c0) l0) ∧ Aside0 (w'.heap[gb150]? = some (.cells #[.string x151000_1, .string x151001_1, .string x151002_1, (.slice none 0 0)] 33 (0, 0))) ∧ Aside0 (Below w.heap.size w w'))
 case atStart => exact ⟨(0), ((⟨#[]⟩ : ByteArray)), ((⟨#[]⟩ : ByteArray)), ((⟨#[]⟩ : ByteArray)), (by (rfl)), H', ⟨Nat.le_refl _⟩, ⟨by (with_reducible repeat ((apply Kd.V_drew))); exact HO0.out⟩, ⟨by (with_reducible repeat ((refine blk_drew ?_))); exact BK150.out⟩, ⟨by repeat ((with_reducible (exact HB.out)))⟩⟩
 case round =>
  clear H'
  obtain ⟨x8_1, x151000_1, x151001_1, x151002_1, rfl, HA, HK1, HO_0, BK150, HB⟩ := hrel
  cases gk with
  | zero => exact absurd HA.out (by simp [lunetteref12_Find.l0])
  | succ k1 =>
   have H := HA.out
   clear HA
   simp only [lunetteref12_Find.l0] at H
   by_cases c5 : x8_1 < (l0.length : Int)
   ·rw [if_pos c5] at H
    have c5b0 : decide (x8_1 < (l0.length : Int)) = true := decide_eq_true c5
    clear c5
    by_cases c6 : 0 ≤ x8_1
    ·rw [if_pos c6] at H
     have c6b0 : decide (0 ≤ x8_1) = true := decide_eq_true c6
     clear c6
     by_cases c7 : ((rd_T30 l0 x8_1).f0).toList = a1.toList
     ·rw [if_pos c7] at H
      have c7b0 : (((rd_T30 l0 x8_1).f0).toList == a1.toList) = true := beq_iff_eq.mpr c7
      have c7b1 : (((rd_T30 l0 x8_1).f0).toList != a1.toList) = false := bne_eq_false_iff_eq.mpr c7
      clear c7
      have H' := Aside0.mk H
      clear H
      have p151 : 0 ≤ (x8_1 : Int) := of_decide_eq_true (by (with_reducible assumption))
      have q151 : x8_1 < (l0.length : Int) := of_decide_eq_true (by (with_reducible assumption))
      obtain ⟨ad151, A151_1, c151_1, e151, hx151_0, hx151_1, hl151_1, hi151_1⟩ := at_T30 (Kd.V_reads' HO_0.out).2.2 x8_1 p151 q151
      cases e151
      obtain ⟨ce151, hce151, hMe151, hcc151⟩ := Kd.V_get HO_0.out z30 x8_1 p151 (by (exact q151))
      obtain ⟨ua151_1, uc151_1, rfl, ul151_1, ge151_1⟩ := k30_openF hMe151
      have hv151_1 := hcc151 1 _ rfl
      rw [add_field _ _ 1 (by omega)] at hv151_1
      replace hv151_1 := Option.some.inj (hv151_1.symm.trans hx151_1)
      injection hv151_1 with hva_ hvn_ hvc_
      rw [hva_] at ge151_1
      rw [hvc_] at ul151_1
      have HL151_1 := Aside0.mk (show Kd.V k35 35 _ w.heap.size _ _ ((rd_T30 l0 x8_1).f1) from Kd.V_mk ul151_1 ge151_1)
      clear hva_ hvn_ hvc_ ge151_1 ul151_1
      clear hcc151 hce151
      have HR151_1 := Aside0.mk hi151_1
      have HC151_1 := Aside0.mk hl151_1
      clear hi151_1 hl151_1
      replace p151 := eq_true p151
      replace q151 := eq_true q151
      go_wp2
      go_loopg [9] k1 (fun kq v9 w' => ∃ (x9_2 : Int) (x151000_2 : ByteArray) (x151001_2 : ByteArray) (x151002_2 : ByteArray), v9 = .int .i64 x9_2 ∧ Aside0 (lunetteref12_Find.l1 kq l0 a2 x8_1 x9_2 = some (r1, r2, r3, r4, r5)) ∧ Aside0 (kq ≤ k1) ∧ Aside0 (Kd.V k30 30 w' w.heap.size (fun k_ => (P0_ k_ ∨ w.heap.size ≤ k_) ∧ k_ ≠ gb150) (.slice (some ad151) l0.length c0) l0) ∧ Aside0 (w'.heap[gb150]? = some (.cells #[.string x151000_2, .string x151001_2, .string x151002_2, (.slice none 0 0)] 33 (0, 0))) ∧ Aside0 (Kd.C k35 w' A151_1 ((rd_T30 l0 x8_1).f1).length ((rd_T30 l0 x8_1).f1)) ∧ Aside0 (Below w.heap.size w w'))
      case atStart => exact ⟨(0), (x151000_1), (x151001_1), (x151002_1), (by (rfl)), H', ⟨Nat.le_refl _⟩, ⟨by (with_reducible repeat ((apply Kd.V_drew))); exact HO_0.out⟩, ⟨by (with_reducible repeat ((refine blk_drew ?_))); exact BK150.out⟩, ⟨by repeat ((with_reducible exact HR151_1.out))⟩, ⟨by repeat ((with_reducible (exact HB.out)))⟩⟩
      case round =>
       clear H'
       try clear c5b0
       try clear c6b0
       try clear c7b0
       try clear c7b1
       try clear hx151_0
       try clear hx151_1
       try clear p151
       try clear q151
       obtain ⟨x9_2, x151000_2, x151001_2, x151002_2, rfl, HA, HK2, HO_0, BK150, HR151_1, HB⟩ := hrel
       cases gk with
       | zero => exact absurd HA.out (by simp [lunetteref12_Find.l1])
       | succ k2 =>
        have H := HA.out
        clear HA
        simp only [lunetteref12_Find.l1] at H
        by_cases c8 : 0 ≤ x8_1
        ·rw [if_pos c8] at H
         have c8b0 : decide (0 ≤ x8_1) = true := decide_eq_true c8
         clear c8
         by_cases c9 : x8_1 < (l0.length : Int)
         ·rw [if_pos c9] at H
          have c9b0 : decide (x8_1 < (l0.length : Int)) = true := decide_eq_true c9
          clear c9
          by_cases c10 : x9_2 < (((rd_T30 l0 x8_1).f1).length : Int)
          ·rw [if_pos c10] at H
           have c10b0 : decide (x9_2 < (((rd_T30 l0 x8_1).f1).length : Int)) = true := decide_eq_true c10
           clear c10
           by_cases c11 : 0 ≤ x9_2
           ·rw [if_pos c11] at H
            have c11b0 : decide (0 ≤ x9_2) = true := decide_eq_true c11
            clear c11
            by_cases c12 : ((rd_T35 ((rd_T30 l0 x8_1).f1) x9_2).f0).toList = a2.toList
            ·rw [if_pos c12] at H
             have c12b0 : (((rd_T35 ((rd_T30 l0 x8_1).f1) x9_2).f0).toList == a2.toList) = true := beq_iff_eq.mpr c12
             have c12b1 : (((rd_T35 ((rd_T30 l0 x8_1).f1) x9_2).f0).toList != a2.toList) = false := bne_eq_false_iff_eq.mpr c12
             clear c12
             simp only [Option.some.injEq, Prod.mk.injEq] at H
             obtain ⟨rfl, rfl, rfl, rfl, rfl⟩ := H
             have p152 : 0 ≤ (x8_1 : Int) := of_decide_eq_true (by (with_reducible assumption))
             have q152 : x8_1 < (l0.length : Int) := of_decide_eq_true (by (with_reducible assumption))
             obtain ⟨ad152, A152_1, c152_1, e152, hx152_0, hx152_1, hl152_1, hi152_1⟩ := at_T30 (Kd.V_reads' HO_0.out).2.2 x8_1 p152 q152
             obtain rfl : ad151 = ad152 := (by injection e152)
             obtain ⟨ce152, hce152, hMe152, hcc152⟩ := Kd.V_get HO_0.out z30 x8_1 p152 (by (exact q152))
             obtain ⟨ua152_1, uc152_1, rfl, ul152_1, ge152_1⟩ := k30_openF hMe152
             have hv152_1 := hcc152 1 _ rfl
             rw [add_field _ _ 1 (by omega)] at hv152_1
             replace hv152_1 := Option.some.inj (hv152_1.symm.trans hx152_1)
             injection hv152_1 with hva_ hvn_ hvc_
             rw [hva_] at ge152_1
             rw [hvc_] at ul152_1
             have HL152_1 := Aside0.mk (show Kd.V k35 35 _ w.heap.size _ _ ((rd_T30 l0 x8_1).f1) from Kd.V_mk ul152_1 ge152_1)
             clear hva_ hvn_ hvc_ ge152_1 ul152_1
             clear hcc152 hce152
             have HR152_1 := Aside0.mk hi152_1
             have HC152_1 := Aside0.mk hl152_1
             clear hi152_1 hl152_1
             replace p152 := eq_true p152
             replace q152 := eq_true q152
             have p153 : 0 ≤ (x8_1 : Int) := of_decide_eq_true (by (with_reducible assumption))
             have q153 : x8_1 < (l0.length : Int) := of_decide_eq_true (by (with_reducible assumption))
             obtain ⟨ad153, A153_1, c153_1, e153, hx153_0, hx153_1, hl153_1, hi153_1⟩ := at_T30 (Kd.V_reads' HO_0.out).2.2 x8_1 p153 q153
             obtain rfl : ad151 = ad153 := (by injection e153)
             obtain ⟨ce153, hce153, hMe153, hcc153⟩ := Kd.V_get HO_0.out z30 x8_1 p153 (by (exact q153))
             obtain ⟨ua153_1, uc153_1, rfl, ul153_1, ge153_1⟩ := k30_openF hMe153
             have hv153_1 := hcc153 1 _ rfl
             rw [add_field _ _ 1 (by omega)] at hv153_1
             replace hv153_1 := Option.some.inj (hv153_1.symm.trans hx153_1)
             injection hv153_1 with hva_ hvn_ hvc_
             rw [hva_] at ge153_1
             rw [hvc_] at ul153_1
             have HL153_1 := Aside0.mk (show Kd.V k35 35 _ w.heap.size _ _ ((rd_T30 l0 x8_1).f1) from Kd.V_mk ul153_1 ge153_1)
             clear hva_ hvn_ hvc_ ge153_1 ul153_1
             clear hcc153 hce153
             have HR153_1 := Aside0.mk hi153_1
             have HC153_1 := Aside0.mk hl153_1
             clear hi153_1 hl153_1
             replace p153 := eq_true p153
             replace q153 := eq_true q153
             have ea_ := Option.some.inj (hx152_1.symm.trans hx153_1)
             injection ea_ with ea_ en_ ec_
             subst ea_
             subst ec_
             clear en_
             have p154 : 0 ≤ (x9_2 : Int) := of_decide_eq_true (by (with_reducible assumption))
             have q154 : x9_2 < (((rd_T30 l0 x8_1).f1).length : Int) := of_decide_eq_true (by (with_reducible assumption))
             obtain ⟨ad154, A154_4, c154_4, e154, hx154_0, hx154_1, hx154_2, hx154_3, hx154_4, hl154_4, hi154_4⟩ := at_T35 (by repeat ((with_reducible exact HR153_1.out))) x9_2 p154 q154
             cases e154
             obtain ⟨ce154, hce154, hMe154, hcc154⟩ := Kd.V_get HL153_1.out z35 x9_2 p154 (by (exact q154))
             obtain ⟨ua154_4, uc154_4, rfl, ul154_4, ge154_4⟩ := k35_openF hMe154
             have hv154_4 := hcc154 4 _ rfl
             rw [add_field _ _ 4 (by omega)] at hv154_4
             replace hv154_4 := Option.some.inj (hv154_4.symm.trans hx154_4)
             injection hv154_4 with hva_ hvn_ hvc_
             rw [hva_] at ge154_4
             rw [hvc_] at ul154_4
             have HL154_4 := Aside0.mk (show Kd.V k33 33 _ w.heap.size _ _ ((rd_T35 ((rd_T30 l0 x8_1).f1) x9_2).f1.f3) from Kd.V_mk ul154_4 ge154_4)
             clear hva_ hvn_ hvc_ ge154_4 ul154_4
             clear hcc154 hce154
             have HR154_4 := Aside0.mk hi154_4
             have HC154_4 := Aside0.mk hl154_4
             clear hi154_4 hl154_4
             replace p154 := eq_true p154
             replace q154 := eq_true q154
             have p155 : 0 ≤ (x8_1 : Int) := of_decide_eq_true (by (with_reducible assumption))
             have q155 : x8_1 < (l0.length : Int) := of_decide_eq_true (by (with_reducible assumption))
             obtain ⟨ad155, A155_1, c155_1, e155, hx155_0, hx155_1, hl155_1, hi155_1⟩ := at_T30 (Kd.V_reads' HO_0.out).2.2 x8_1 p155 q155
             obtain rfl : ad151 = ad155 := (by injection e155)
             obtain ⟨ce155, hce155, hMe155, hcc155⟩ := Kd.V_get HO_0.out z30 x8_1 p155 (by (exact q155))
             obtain ⟨ua155_1, uc155_1, rfl, ul155_1, ge155_1⟩ := k30_openF hMe155
             have hv155_1 := hcc155 1 _ rfl
             rw [add_field _ _ 1 (by omega)] at hv155_1
             replace hv155_1 := Option.some.inj (hv155_1.symm.trans hx155_1)
             injection hv155_1 with hva_ hvn_ hvc_
             rw [hva_] at ge155_1
             rw [hvc_] at ul155_1
             have HL155_1 := Aside0.mk (show Kd.V k35 35 _ w.heap.size _ _ ((rd_T30 l0 x8_1).f1) from Kd.V_mk ul155_1 ge155_1)
             clear hva_ hvn_ hvc_ ge155_1 ul155_1
             clear hcc155 hce155
             have HR155_1 := Aside0.mk hi155_1
             have HC155_1 := Aside0.mk hl155_1
             clear hi155_1 hl155_1
             replace p155 := eq_true p155
             replace q155 := eq_true q155
             have ea_ := Option.some.inj (hx152_1.symm.trans hx155_1)
             injection ea_ with ea_ en_ ec_
             subst ea_
             subst ec_
             clear en_
             have p156 : 0 ≤ (x9_2 : Int) := of_decide_eq_true (by (with_reducible assumption))
             have q156 : x9_2 < (((rd_T30 l0 x8_1).f1).length : Int) := of_decide_eq_true (by (with_reducible assumption))
             obtain ⟨ad156, A156_4, c156_4, e156, hx156_0, hx156_1, hx156_2, hx156_3, hx156_4, hl156_4, hi156_4⟩ := at_T35 (by repeat ((with_reducible exact HR155_1.out))) x9_2 p156 q156
             cases e156
             have ea_ := Option.some.inj (hx156_4.symm.trans hx154_4)
             injection ea_ with ea_ en_ ec_
             subst ea_
             subst ec_
             clear en_
             obtain ⟨ce156, hce156, hMe156, hcc156⟩ := Kd.V_get HL155_1.out z35 x9_2 p156 (by (exact q156))
             obtain ⟨ua156_4, uc156_4, rfl, ul156_4, ge156_4⟩ := k35_openF hMe156
             have hv156_4 := hcc156 4 _ rfl
             rw [add_field _ _ 4 (by omega)] at hv156_4
             replace hv156_4 := Option.some.inj (hv156_4.symm.trans hx156_4)
             injection hv156_4 with hva_ hvn_ hvc_
             rw [hva_] at ge156_4
             rw [hvc_] at ul156_4
             have HL156_4 := Aside0.mk (show Kd.V k33 33 _ w.heap.size _ _ ((rd_T35 ((rd_T30 l0 x8_1).f1) x9_2).f1.f3) from Kd.V_mk ul156_4 ge156_4)
             clear hva_ hvn_ hvc_ ge156_4 ul156_4
             clear hcc156 hce156
             have HR156_4 := Aside0.mk hi156_4
             have HC156_4 := Aside0.mk hl156_4
             clear hi156_4 hl156_4
             replace p156 := eq_true p156
             replace q156 := eq_true q156
             have hcz13_0 : wr.cell? ⟨gb150, 0, none⟩ = some (.string x151000_2) := (blk_cell BK150.out 0).trans rfl
             have hcz13_1 : wr.cell? ⟨gb150, 1, none⟩ = some (.string x151001_2) := (blk_cell BK150.out 1).trans rfl
             have hcz13_2 : wr.cell? ⟨gb150, 2, none⟩ = some (.string x151002_2) := (blk_cell BK150.out 2).trans rfl
             have hcz13_3 : wr.cell? ⟨gb150, 3, none⟩ = some (.slice none 0 0) := (blk_cell BK150.out 3).trans rfl
             have hfz13_0 := blk_frozen BK150.out 0
             have hfz13_1 := blk_frozen BK150.out 1
             have hfz13_2 := blk_frozen BK150.out 2
             have hfz13_3 := blk_frozen BK150.out 3
             go_wp2
             refine bodyPost_ret (results_ct rfl _ _ gb150 33 #[.string ((rd_T35 ((rd_T30 l0 x8_1).f1) x9_2).f1.f0), .string ((rd_T35 ((rd_T30 l0 x8_1).f1) x9_2).f1.f1), .string ((rd_T35 ((rd_T30 l0 x8_1).f1) x9_2).f1.f2), .slice A156_4 ((rd_T35 ((rd_T30 l0 x8_1).f1) x9_2).f1.f3).length c156_4] (0, 0) _ rfl (by (with_reducible repeat ((refine blk_drew ?_))); refine blk_put (cs := #[.string ((rd_T35 ((rd_T30 l0 x8_1).f1) x9_2).f1.f0), .string ((rd_T35 ((rd_T30 l0 x8_1).f1) x9_2).f1.f1), .string ((rd_T35 ((rd_T30 l0 x8_1).f1) x9_2).f1.f2), .slice none 0 0]) ?_ 3 _ rfl; (with_reducible repeat ((refine blk_drew ?_))); refine blk_put (cs := #[.string ((rd_T35 ((rd_T30 l0 x8_1).f1) x9_2).f1.f0), .string ((rd_T35 ((rd_T30 l0 x8_1).f1) x9_2).f1.f1), .string x151002_2, .slice none 0 0]) ?_ 2 _ rfl; (with_reducible repeat ((refine blk_drew ?_))); refine blk_put (cs := #[.string ((rd_T35 ((rd_T30 l0 x8_1).f1) x9_2).f1.f0), .string x151001_2, .string x151002_2, .slice none 0 0]) ?_ 1 _ rfl; (with_reducible repeat ((refine blk_drew ?_))); refine blk_put (cs := #[.string x151000_2, .string x151001_2, .string x151002_2, .slice none 0 0]) ?_ 0 _ rfl; (with_reducible repeat ((refine blk_drew ?_))); exact BK150.out) Tryz.underlying33 rfl (by kernel_rfl)) rfl ?_
             exact ⟨_, by (rfl), by (with_reducible repeat ((apply Kd.V_drew))); exact Kd.V_mono (Kd.V_far (p := ⟨gb150, 3, none⟩) (Kd.V_far (p := ⟨gb150, 2, none⟩) (Kd.V_far (p := ⟨gb150, 1, none⟩) (Kd.V_far (p := ⟨gb150, 0, none⟩) (Kd.V_mono HL156_4.out (fun k_ hk => (⟨hk, hk.2⟩ : _ ∧ k_ ≠ gb150))) (fun _ hk => hk.2) (.string ((rd_T35 ((rd_T30 l0 x8_1).f1) x9_2).f1.f0))) (fun _ hk => hk.2) (.string ((rd_T35 ((rd_T30 l0 x8_1).f1) x9_2).f1.f1))) (fun _ hk => hk.2) (.string ((rd_T35 ((rd_T30 l0 x8_1).f1) x9_2).f1.f2))) (fun _ hk => hk.2) (.slice A156_4 ((rd_T35 ((rd_T30 l0 x8_1).f1) x9_2).f1.f3).length c156_4)) (fun _ hk => hk.1.1), by repeat ((with_reducible first | exact HB.out | refine below_set ?_ GE150.out))⟩
            ·rw [if_neg c12] at H
             have c12b0 : (((rd_T35 ((rd_T30 l0 x8_1).f1) x9_2).f0).toList == a2.toList) = false := beq_eq_false_iff_ne.mpr c12
             have c12b1 : (((rd_T35 ((rd_T30 l0 x8_1).f1) x9_2).f0).toList != a2.toList) = true := bne_iff_ne.mpr c12
             have H' := Aside0.mk H
             clear H
             have p152 : 0 ≤ (x8_1 : Int) := of_decide_eq_true (by (with_reducible assumption))
             have q152 : x8_1 < (l0.length : Int) := of_decide_eq_true (by (with_reducible assumption))
             obtain ⟨ad152, A152_1, c152_1, e152, hx152_0, hx152_1, hl152_1, hi152_1⟩ := at_T30 (Kd.V_reads' HO_0.out).2.2 x8_1 p152 q152
             obtain rfl : ad151 = ad152 := (by injection e152)
             obtain ⟨ce152, hce152, hMe152, hcc152⟩ := Kd.V_get HO_0.out z30 x8_1 p152 (by (exact q152))
             obtain ⟨ua152_1, uc152_1, rfl, ul152_1, ge152_1⟩ := k30_openF hMe152
             have hv152_1 := hcc152 1 _ rfl
             rw [add_field _ _ 1 (by omega)] at hv152_1
             replace hv152_1 := Option.some.inj (hv152_1.symm.trans hx152_1)
             injection hv152_1 with hva_ hvn_ hvc_
             rw [hva_] at ge152_1
             rw [hvc_] at ul152_1
             have HL152_1 := Aside0.mk (show Kd.V k35 35 _ w.heap.size _ _ ((rd_T30 l0 x8_1).f1) from Kd.V_mk ul152_1 ge152_1)
             clear hva_ hvn_ hvc_ ge152_1 ul152_1
             clear hcc152 hce152
             have HR152_1 := Aside0.mk hi152_1
             have HC152_1 := Aside0.mk hl152_1
             clear hi152_1 hl152_1
             replace p152 := eq_true p152
             replace q152 := eq_true q152
             have p153 : 0 ≤ (x8_1 : Int) := of_decide_eq_true (by (with_reducible assumption))
             have q153 : x8_1 < (l0.length : Int) := of_decide_eq_true (by (with_reducible assumption))
             obtain ⟨ad153, A153_1, c153_1, e153, hx153_0, hx153_1, hl153_1, hi153_1⟩ := at_T30 (Kd.V_reads' HO_0.out).2.2 x8_1 p153 q153
             obtain rfl : ad151 = ad153 := (by injection e153)
             obtain ⟨ce153, hce153, hMe153, hcc153⟩ := Kd.V_get HO_0.out z30 x8_1 p153 (by (exact q153))
             obtain ⟨ua153_1, uc153_1, rfl, ul153_1, ge153_1⟩ := k30_openF hMe153
             have hv153_1 := hcc153 1 _ rfl
             rw [add_field _ _ 1 (by omega)] at hv153_1
             replace hv153_1 := Option.some.inj (hv153_1.symm.trans hx153_1)
             injection hv153_1 with hva_ hvn_ hvc_
             rw [hva_] at ge153_1
             rw [hvc_] at ul153_1
             have HL153_1 := Aside0.mk (show Kd.V k35 35 _ w.heap.size _ _ ((rd_T30 l0 x8_1).f1) from Kd.V_mk ul153_1 ge153_1)
             clear hva_ hvn_ hvc_ ge153_1 ul153_1
             clear hcc153 hce153
             have HR153_1 := Aside0.mk hi153_1
             have HC153_1 := Aside0.mk hl153_1
             clear hi153_1 hl153_1
             replace p153 := eq_true p153
             replace q153 := eq_true q153
             have ea_ := Option.some.inj (hx152_1.symm.trans hx153_1)
             injection ea_ with ea_ en_ ec_
             subst ea_
             subst ec_
             clear en_
             have p154 : 0 ≤ (x9_2 : Int) := of_decide_eq_true (by (with_reducible assumption))
             have q154 : x9_2 < (((rd_T30 l0 x8_1).f1).length : Int) := of_decide_eq_true (by (with_reducible assumption))
             obtain ⟨ad154, A154_4, c154_4, e154, hx154_0, hx154_1, hx154_2, hx154_3, hx154_4, hl154_4, hi154_4⟩ := at_T35 (by repeat ((with_reducible exact HR153_1.out))) x9_2 p154 q154
             cases e154
             obtain ⟨ce154, hce154, hMe154, hcc154⟩ := Kd.V_get HL153_1.out z35 x9_2 p154 (by (exact q154))
             obtain ⟨ua154_4, uc154_4, rfl, ul154_4, ge154_4⟩ := k35_openF hMe154
             have hv154_4 := hcc154 4 _ rfl
             rw [add_field _ _ 4 (by omega)] at hv154_4
             replace hv154_4 := Option.some.inj (hv154_4.symm.trans hx154_4)
             injection hv154_4 with hva_ hvn_ hvc_
             rw [hva_] at ge154_4
             rw [hvc_] at ul154_4
             have HL154_4 := Aside0.mk (show Kd.V k33 33 _ w.heap.size _ _ ((rd_T35 ((rd_T30 l0 x8_1).f1) x9_2).f1.f3) from Kd.V_mk ul154_4 ge154_4)
             clear hva_ hvn_ hvc_ ge154_4 ul154_4
             clear hcc154 hce154
             have HR154_4 := Aside0.mk hi154_4
             have HC154_4 := Aside0.mk hl154_4
             clear hi154_4 hl154_4
             replace p154 := eq_true p154
             replace q154 := eq_true q154
             go_wp2
             go_roundg k2
             case measure => have := HK1.out; have := HK2.out; omega
             case rel => exact ⟨(wrap64 (x9_2 + 1)), (x151000_2), (x151001_2), (x151002_2), (by (rfl)), H', ⟨by have := HK1.out; have := HK2.out; omega⟩, ⟨by (with_reducible repeat ((apply Kd.V_drew))); exact HO_0.out⟩, ⟨by (with_reducible repeat ((refine blk_drew ?_))); exact BK150.out⟩, ⟨by repeat ((with_reducible exact HR151_1.out))⟩, ⟨by repeat ((with_reducible (exact HB.out)))⟩⟩
           ·rw [if_neg c11] at H
            exact absurd H (by simp)
          ·rw [if_neg c10] at H
           have c10b0 : decide (x9_2 < (((rd_T30 l0 x8_1).f1).length : Int)) = false := decide_eq_false c10
           clear c10
           simp only [Option.some.injEq, Prod.mk.injEq] at H
           obtain ⟨rfl, rfl, rfl, rfl, rfl⟩ := H
           have p152 : 0 ≤ (x8_1 : Int) := of_decide_eq_true (by (with_reducible assumption))
           have q152 : x8_1 < (l0.length : Int) := of_decide_eq_true (by (with_reducible assumption))
           obtain ⟨ad152, A152_1, c152_1, e152, hx152_0, hx152_1, hl152_1, hi152_1⟩ := at_T30 (Kd.V_reads' HO_0.out).2.2 x8_1 p152 q152
           obtain rfl : ad151 = ad152 := (by injection e152)
           obtain ⟨ce152, hce152, hMe152, hcc152⟩ := Kd.V_get HO_0.out z30 x8_1 p152 (by (exact q152))
           obtain ⟨ua152_1, uc152_1, rfl, ul152_1, ge152_1⟩ := k30_openF hMe152
           have hv152_1 := hcc152 1 _ rfl
           rw [add_field _ _ 1 (by omega)] at hv152_1
           replace hv152_1 := Option.some.inj (hv152_1.symm.trans hx152_1)
           injection hv152_1 with hva_ hvn_ hvc_
           rw [hva_] at ge152_1
           rw [hvc_] at ul152_1
           have HL152_1 := Aside0.mk (show Kd.V k35 35 _ w.heap.size _ _ ((rd_T30 l0 x8_1).f1) from Kd.V_mk ul152_1 ge152_1)
           clear hva_ hvn_ hvc_ ge152_1 ul152_1
           clear hcc152 hce152
           have HR152_1 := Aside0.mk hi152_1
           have HC152_1 := Aside0.mk hl152_1
           clear hi152_1 hl152_1
           replace p152 := eq_true p152
           replace q152 := eq_true q152
           have hcz14_0 : wr.cell? ⟨gb150, 0, none⟩ = some (.string x151000_2) := (blk_cell BK150.out 0).trans rfl
           have hcz14_1 : wr.cell? ⟨gb150, 1, none⟩ = some (.string x151001_2) := (blk_cell BK150.out 1).trans rfl
           have hcz14_2 : wr.cell? ⟨gb150, 2, none⟩ = some (.string x151002_2) := (blk_cell BK150.out 2).trans rfl
           have hcz14_3 : wr.cell? ⟨gb150, 3, none⟩ = some (.slice none 0 0) := (blk_cell BK150.out 3).trans rfl
           have hfz14_0 := blk_frozen BK150.out 0
           have hfz14_1 := blk_frozen BK150.out 1
           have hfz14_2 := blk_frozen BK150.out 2
           have hfz14_3 := blk_frozen BK150.out 3
           go_wp2
           refine bodyPost_ret (results_ct rfl _ _ gb150 33 #[.string (⟨#[]⟩ : ByteArray), .string (⟨#[]⟩ : ByteArray), .string (⟨#[]⟩ : ByteArray), .slice none 0 0] (0, 0) _ rfl (by (with_reducible repeat ((refine blk_drew ?_))); refine blk_put (cs := #[.string (⟨#[]⟩ : ByteArray), .string (⟨#[]⟩ : ByteArray), .string (⟨#[]⟩ : ByteArray), .slice none 0 0]) ?_ 3 _ rfl; (with_reducible repeat ((refine blk_drew ?_))); refine blk_put (cs := #[.string (⟨#[]⟩ : ByteArray), .string (⟨#[]⟩ : ByteArray), .string x151002_2, .slice none 0 0]) ?_ 2 _ rfl; (with_reducible repeat ((refine blk_drew ?_))); refine blk_put (cs := #[.string (⟨#[]⟩ : ByteArray), .string x151001_2, .string x151002_2, .slice none 0 0]) ?_ 1 _ rfl; (with_reducible repeat ((refine blk_drew ?_))); refine blk_put (cs := #[.string x151000_2, .string x151001_2, .string x151002_2, .slice none 0 0]) ?_ 0 _ rfl; (with_reducible repeat ((refine blk_drew ?_))); exact BK150.out) Tryz.underlying33 rfl (by kernel_rfl)) rfl ?_
           exact ⟨_, by (rfl), Kd.V_nil _ _ _ _ _, by repeat ((with_reducible first | exact HB.out | refine below_set ?_ GE150.out))⟩
         ·rw [if_neg c9] at H
          exact absurd H (by simp)
        ·rw [if_neg c8] at H
         exact absurd H (by simp)
     ·rw [if_neg c7] at H
      have c7b0 : (((rd_T30 l0 x8_1).f0).toList == a1.toList) = false := beq_eq_false_iff_ne.mpr c7
      have c7b1 : (((rd_T30 l0 x8_1).f0).toList != a1.toList) = true := bne_iff_ne.mpr c7
      have H' := Aside0.mk H
      clear H
      have p151 : 0 ≤ (x8_1 : Int) := of_decide_eq_true (by (with_reducible assumption))
      have q151 : x8_1 < (l0.length : Int) := of_decide_eq_true (by (with_reducible assumption))
      obtain ⟨ad151, A151_1, c151_1, e151, hx151_0, hx151_1, hl151_1, hi151_1⟩ := at_T30 (Kd.V_reads' HO_0.out).2.2 x8_1 p151 q151
      cases e151
      obtain ⟨ce151, hce151, hMe151, hcc151⟩ := Kd.V_get HO_0.out z30 x8_1 p151 (by (exact q151))
      obtain ⟨ua151_1, uc151_1, rfl, ul151_1, ge151_1⟩ := k30_openF hMe151
      have hv151_1 := hcc151 1 _ rfl
      rw [add_field _ _ 1 (by omega)] at hv151_1
      replace hv151_1 := Option.some.inj (hv151_1.symm.trans hx151_1)
      injection hv151_1 with hva_ hvn_ hvc_
      rw [hva_] at ge151_1
      rw [hvc_] at ul151_1
      have HL151_1 := Aside0.mk (show Kd.V k35 35 _ w.heap.size _ _ ((rd_T30 l0 x8_1).f1) from Kd.V_mk ul151_1 ge151_1)
      clear hva_ hvn_ hvc_ ge151_1 ul151_1
      clear hcc151 hce151
      have HR151_1 := Aside0.mk hi151_1
      have HC151_1 := Aside0.mk hl151_1
      clear hi151_1 hl151_1
      replace p151 := eq_true p151
      replace q151 := eq_true q151
      go_wp2
      go_roundg k1
      case measure => have := HK1.out; omega
      case rel => exact ⟨(wrap64 (x8_1 + 1)), (x151000_1), (x151001_1), (x151002_1), (by (rfl)), H', ⟨by have := HK1.out; omega⟩, ⟨by (with_reducible repeat ((apply Kd.V_drew))); exact HO_0.out⟩, ⟨by (with_reducible repeat ((refine blk_drew ?_))); exact BK150.out⟩, ⟨by repeat ((with_reducible (exact HB.out)))⟩⟩
    ·rw [if_neg c6] at H
     exact absurd H (by simp)
   ·rw [if_neg c5] at H
    have c5b0 : decide (x8_1 < (l0.length : Int)) = false := decide_eq_false c5
    clear c5
    simp only [Option.some.injEq, Prod.mk.injEq] at H
    obtain ⟨rfl, rfl, rfl, rfl, rfl⟩ := H
    have hcz15_0 : wr.cell? ⟨gb150, 0, none⟩ = some (.string x151000_1) := (blk_cell BK150.out 0).trans rfl
    have hcz15_1 : wr.cell? ⟨gb150, 1, none⟩ = some (.string x151001_1) := (blk_cell BK150.out 1).trans rfl
    have hcz15_2 : wr.cell? ⟨gb150, 2, none⟩ = some (.string x151002_1) := (blk_cell BK150.out 2).trans rfl
    have hcz15_3 : wr.cell? ⟨gb150, 3, none⟩ = some (.slice none 0 0) := (blk_cell BK150.out 3).trans rfl
    have hfz15_0 := blk_frozen BK150.out 0
    have hfz15_1 := blk_frozen BK150.out 1
    have hfz15_2 := blk_frozen BK150.out 2
    have hfz15_3 := blk_frozen BK150.out 3
    go_wp2
    refine bodyPost_ret (results_ct rfl _ _ gb150 33 #[.string (⟨#[]⟩ : ByteArray), .string (⟨#[]⟩ : ByteArray), .string (⟨#[]⟩ : ByteArray), .slice none 0 0] (0, 0) _ rfl (by (with_reducible repeat ((refine blk_drew ?_))); refine blk_put (cs := #[.string (⟨#[]⟩ : ByteArray), .string (⟨#[]⟩ : ByteArray), .string (⟨#[]⟩ : ByteArray), .slice none 0 0]) ?_ 3 _ rfl; (with_reducible repeat ((refine blk_drew ?_))); refine blk_put (cs := #[.string (⟨#[]⟩ : ByteArray), .string (⟨#[]⟩ : ByteArray), .string x151002_1, .slice none 0 0]) ?_ 2 _ rfl; (with_reducible repeat ((refine blk_drew ?_))); refine blk_put (cs := #[.string (⟨#[]⟩ : ByteArray), .string x151001_1, .string x151002_1, .slice none 0 0]) ?_ 1 _ rfl; (with_reducible repeat ((refine blk_drew ?_))); refine blk_put (cs := #[.string x151000_1, .string x151001_1, .string x151002_1, .slice none 0 0]) ?_ 0 _ rfl; (with_reducible repeat ((refine blk_drew ?_))); exact BK150.out) Tryz.underlying33 rfl (by kernel_rfl)) rfl ?_
    exact ⟨_, by (rfl), Kd.V_nil _ _ _ _ _, by repeat ((with_reducible first | exact HB.out | refine below_set ?_ GE150.out))⟩
end Go.Proofs.YtjcipbdocbomjaaGreatDoor.K
namespace Go.Proofs.YtjcipbdocbomjaaGreatDoor.K
attribute [local go_sem] max2_int min2_int max_two min_two max_three min_three max_four min_four
def lunettelaw12_RuleFinds.j0 : Nat → List (S30) → ByteArray → ByteArray → Bool → Option (Bool)
 | 0, _, _, _, _ => none
 | k + 1, x0, x1, x2, x27 => if x27 = true then ((lunettelaw12_awake.f).bind fun t205 => (some t205)) else ((rule_Find.f x0 x1 x2).bind fun bt206 => ((lunetteref12_Find.f k x0 x1 x2).bind fun bt214 => (if (bt206.2.2.2.2 == bt214.2.2.2.2) = true then ((lunetteref12_Same.f k bt206.1 bt206.2.1 bt206.2.2.1 bt206.2.2.2.1 bt214.1 bt214.2.1 bt214.2.2.1 bt214.2.2.2.1).bind fun t222 => (if t222 = true then ((rule_Deep.f k bt206.1 bt206.2.1 bt206.2.2.1 bt206.2.2.2.1).bind fun t223 => ((lunetteref12_Deep.f k bt214.1 bt214.2.1 bt214.2.2.1 bt214.2.2.2.1).bind fun t224 => (if t223 = t224 then ((rule_Size.f k bt206.1 bt206.2.1 bt206.2.2.1 bt206.2.2.2.1).bind fun t225 => ((lunetteref12_Size.f k bt214.1 bt214.2.1 bt214.2.2.1 bt214.2.2.2.1).bind fun t226 => (some (t225 == t226)))) else (some false)))) else (some false))) else (some false))))
def lunettelaw12_RuleFinds.f (k : Nat) (l0 : List (S30)) (a1 : ByteArray) (a2 : ByteArray) : Option (Bool) := (lunettelaw12_awake.f).bind fun t203 => (if t203 = true then ((lunetteref12_Few.f k l0).bind fun t204 => (if t204 = true then (if (a1.size : Int) > 100 then (lunettelaw12_RuleFinds.j0 k l0 a1 a2 true) else (lunettelaw12_RuleFinds.j0 k l0 a1 a2 (decide ((a2.size : Int) > 100)))) else (lunettelaw12_RuleFinds.j0 k l0 a1 a2 true))) else (lunettelaw12_RuleFinds.j0 k l0 a1 a2 true))
def lunettelaw12_RuleFinds.T5 : Bool × List (List Nat × List Nat) := (true, [([], []), ([], []), ([0, 1], [0, 1]), ([2], [2]), ([3], [3]), ([3], [3]), ([4, 5, 3, 3], [3, 4, 5]), ([3, 6], [3, 6]), ([7, 6], [7]), ([8], [8]), ([9, 8, 8], [8, 9]), ([8], [8]), ([11, 10, 8], [8, 11]), ([10, 12, 8], [8, 10, 12]), ([8, 13], [8, 13]), ([14, 12], [14]), ([15], [15]), ([16, 15, 15], [15, 16]), ([15], [15]), ([18, 17, 15], [15, 18]), ([17, 19, 15], [15, 17, 19]), ([15, 20], [15, 20]), ([21, 19, 0, 1, 2, 3, 4, 5, 6, 7, 8, 9, 10, 11, 12, 13, 14, 15, 16, 17, 18, 19, 20, 21], [21])])
def lunettelaw12_RuleFinds.B5 : List Nat := [0, 0, 3, 7, 15, 15, 63, 127, 255, 511, 1023, 511, 4095, 8191, 16383, 32767, 65535, 131071, 65535, 524287, 1048575, 2097151, 4194303]
theorem lunettelaw12_RuleFinds.tab5 : rtab .any (opsOf Tryz.f7 5) = lunettelaw12_RuleFinds.T5 := by kernel_rfl
theorem lunettelaw12_RuleFinds.bits5 : waitsOk lunettelaw12_RuleFinds.T5.2 lunettelaw12_RuleFinds.B5 = true := by kernel_rfl
set_option maxHeartbeats 8000000 in
set_option maxRecDepth 100000 in
theorem lunettelaw12_RuleFinds.callsT (k : Nat) (A0 : Option Addr) (c0 : Nat) (l0 : List (S30)) (a1 : ByteArray) (a2 : ByteArray) (r : Bool) (w : World) (hr0 : Kd.C k30 w A0 l0.length l0) (hc0 : l0.length ≤ c0) (hTab : Tabs w) (h : lunettelaw12_RuleFinds.f k l0 a1 a2 = some r) (hT : r = true) :
  Calls Tryz.prog 7 #[.slice A0 l0.length c0, .string a1, .string a2] w fun e w' => e = .returned (.bool r) ∧ Below w.heap.size w w' := by
 have HTB := Aside0.mk hTab
 clear hTab
 have hu33 := Tryz.underlying33
 have HR0 := Aside0.mk hr0
 have HC0 := Aside0.mk hc0
 clear hr0 hc0
 have HB := Aside0.mk (Below.refl w.heap.size w)
 have HTRUE := Aside0.mk hT
 clear hT
 have H : ((lunettelaw12_awake.f).bind fun t203 => (if t203 = true then ((lunetteref12_Few.f k l0).bind fun t204 => (if t204 = true then (if (a1.size : Int) > 100 then (lunettelaw12_RuleFinds.j0 k l0 a1 a2 true) else (lunettelaw12_RuleFinds.j0 k l0 a1 a2 (decide ((a2.size : Int) > 100)))) else (lunettelaw12_RuleFinds.j0 k l0 a1 a2 true))) else (lunettelaw12_RuleFinds.j0 k l0 a1 a2 true))) = some r := h
 clear h
 have HC4 := Aside0.mk H
 clear H
 go_enter Tryz.func7, Tryz.ntmps7
 go_upto_region 1 with (fail)
 go_cut [27] (fun v27 wc => ∃ (kq : Nat) (x27_3 : Bool), v27 = .bool x27_3 ∧ Aside0 (lunettelaw12_RuleFinds.j0 kq l0 a1 a2 x27_3 = some r) ∧ Aside0 (kq ≤ k) ∧ Aside0 (Below w.heap.size w wc))
 case first =>
  have H := HC4.out
  clear HC4
  replace H := Option.bind_eq_some_iff.mp H
  obtain ⟨t203, A50, H⟩ := H
  replace H : (if t203 = true then ((lunetteref12_Few.f k l0).bind fun t204 => (if t204 = true then (if (a1.size : Int) > 100 then (lunettelaw12_RuleFinds.j0 k l0 a1 a2 true) else (lunettelaw12_RuleFinds.j0 k l0 a1 a2 (decide ((a2.size : Int) > 100)))) else (lunettelaw12_RuleFinds.j0 k l0 a1 a2 true))) else (lunettelaw12_RuleFinds.j0 k l0 a1 a2 true)) = some r := H
  have A5 := Aside0.mk A50
  clear A50
  by_cases c6 : t203 = true
  ·subst c6
   have H1 : ((lunetteref12_Few.f k l0).bind fun t204 => (if t204 = true then (if (a1.size : Int) > 100 then (lunettelaw12_RuleFinds.j0 k l0 a1 a2 true) else (lunettelaw12_RuleFinds.j0 k l0 a1 a2 (decide ((a2.size : Int) > 100)))) else (lunettelaw12_RuleFinds.j0 k l0 a1 a2 true))) = some r := by rw [if_pos rfl] at H; exact H
   clear H
   have H := H1
   clear H1
   replace H := Option.bind_eq_some_iff.mp H
   obtain ⟨t204, A70, H⟩ := H
   replace H : (if t204 = true then (if (a1.size : Int) > 100 then (lunettelaw12_RuleFinds.j0 k l0 a1 a2 true) else (lunettelaw12_RuleFinds.j0 k l0 a1 a2 (decide ((a2.size : Int) > 100)))) else (lunettelaw12_RuleFinds.j0 k l0 a1 a2 true)) = some r := H
   have A7 := Aside0.mk A70
   clear A70
   by_cases c8 : t204 = true
   ·subst c8
    have H1 : (if (a1.size : Int) > 100 then (lunettelaw12_RuleFinds.j0 k l0 a1 a2 true) else (lunettelaw12_RuleFinds.j0 k l0 a1 a2 (decide ((a2.size : Int) > 100)))) = some r := by rw [if_pos rfl] at H; exact H
    clear H
    have H := H1
    clear H1
    by_cases c9 : (a1.size : Int) > 100
    ·rw [if_pos c9] at H
     have c9b0 : decide (100 < (a1.size : Int)) = true := decide_eq_true c9
     have c9b1 : decide (100 < a1.size) = true := decide_eq_true (by omega)
     clear c9
     ((skip))
     have H' := Aside0.mk H
     clear H
     go_wp2_with (first | ((with_reducible refine gate_callee (f := 9) rfl ?_); refine goesL_ (some 11) rfl rfl Tryz.func9 (by kernel_rfl) rfl #[] rfl (by (try simp only [List.map_toArray, List.map_cons, List.map_nil]); (done)) ?_; (with_reducible refine (lunettelaw12_awake.calls  true _ A5.out ?sideT).mono ?_); (case sideT => exact Tabs.keep HTB.out (by repeat ((with_reducible (exact HB.out))))); rintro e w10 ⟨rfl, hb⟩; refine ⟨_, rfl, ?_⟩; have n0_ := Aside0.mk (below_step (by repeat ((with_reducible (exact HB.out)))) hb); clear HB; have HB := n0_; clear n0_; (try clear hb)) | (go_at_call 10; (with_reducible refine (lunetteref12_Few.calls k _ _ l0 true _ ?side1 ?side2 A7.out).mono ?_); (case side1 => repeat ((exact (Kd.C_below HR0.out HB.out)))); (case side2 => exact HC0.out); rintro e w11 ⟨rfl, hb⟩; have n0_ := Aside0.mk (below_step (by repeat ((with_reducible (exact HB.out)))) hb); clear HB; have HB := n0_; clear n0_; (try clear hb)))
     go_meet
     case rel => exact ⟨_, (true), (by (rfl)), H', ⟨by (omega)⟩, ⟨by repeat ((with_reducible (exact HB.out)))⟩⟩
    ·rw [if_neg c9] at H
     have c9b0 : decide (100 < (a1.size : Int)) = false := decide_eq_false c9
     have c9b1 : decide (100 < a1.size) = false := decide_eq_false (by omega)
     clear c9
     ((skip))
     have H' := Aside0.mk H
     clear H
     go_wp2_with (first | ((with_reducible refine gate_callee (f := 9) rfl ?_); refine goesL_ (some 11) rfl rfl Tryz.func9 (by kernel_rfl) rfl #[] rfl (by (try simp only [List.map_toArray, List.map_cons, List.map_nil]); (done)) ?_; (with_reducible refine (lunettelaw12_awake.calls  true _ A5.out ?sideT).mono ?_); (case sideT => exact Tabs.keep HTB.out (by repeat ((with_reducible (exact HB.out))))); rintro e w12 ⟨rfl, hb⟩; refine ⟨_, rfl, ?_⟩; have n0_ := Aside0.mk (below_step (by repeat ((with_reducible (exact HB.out)))) hb); clear HB; have HB := n0_; clear n0_; (try clear hb)) | (go_at_call 10; (with_reducible refine (lunetteref12_Few.calls k _ _ l0 true _ ?side1 ?side2 A7.out).mono ?_); (case side1 => repeat ((exact (Kd.C_below HR0.out HB.out)))); (case side2 => exact HC0.out); rintro e w13 ⟨rfl, hb⟩; have n0_ := Aside0.mk (below_step (by repeat ((with_reducible (exact HB.out)))) hb); clear HB; have HB := n0_; clear n0_; (try clear hb)))
     go_meet
     case rel => exact ⟨_, (decide ((a2.size : Int) > 100)), (by (rfl)), H', ⟨by (omega)⟩, ⟨by repeat ((with_reducible (exact HB.out)))⟩⟩
   ·replace c8 := Bool.eq_false_iff.mpr c8
    subst c8
    have H1 : (lunettelaw12_RuleFinds.j0 k l0 a1 a2 true) = some r := by rw [if_neg (show ¬ (false = true) by decide)] at H; exact H
    clear H
    have H := H1
    clear H1
    have H' := Aside0.mk H
    clear H
    go_wp2_with (first | ((with_reducible refine gate_callee (f := 9) rfl ?_); refine goesL_ (some 11) rfl rfl Tryz.func9 (by kernel_rfl) rfl #[] rfl (by (try simp only [List.map_toArray, List.map_cons, List.map_nil]); (done)) ?_; (with_reducible refine (lunettelaw12_awake.calls  true _ A5.out ?sideT).mono ?_); (case sideT => exact Tabs.keep HTB.out (by repeat ((with_reducible (exact HB.out))))); rintro e w14 ⟨rfl, hb⟩; refine ⟨_, rfl, ?_⟩; have n0_ := Aside0.mk (below_step (by repeat ((with_reducible (exact HB.out)))) hb); clear HB; have HB := n0_; clear n0_; (try clear hb)) | (go_at_call 10; (with_reducible refine (lunetteref12_Few.calls k _ _ l0 false _ ?side1 ?side2 A7.out).mono ?_); (case side1 => repeat ((exact (Kd.C_below HR0.out HB.out)))); (case side2 => exact HC0.out); rintro e w15 ⟨rfl, hb⟩; have n0_ := Aside0.mk (below_step (by repeat ((with_reducible (exact HB.out)))) hb); clear HB; have HB := n0_; clear n0_; (try clear hb)))
    go_meet
    case rel => exact ⟨_, (true), (by (rfl)), H', ⟨by (omega)⟩, ⟨by repeat ((with_reducible (exact HB.out)))⟩⟩
  ·replace c6 := Bool.eq_false_iff.mpr c6
   subst c6
   have H1 : (lunettelaw12_RuleFinds.j0 k l0 a1 a2 true) = some r := by rw [if_neg (show ¬ (false = true) by decide)] at H; exact H
   clear H
   have H := H1
   clear H1
   have H' := Aside0.mk H
   clear H
   go_wp2_with (((with_reducible refine gate_callee (f := 9) rfl ?_); refine goesL_ (some 11) rfl rfl Tryz.func9 (by kernel_rfl) rfl #[] rfl (by (try simp only [List.map_toArray, List.map_cons, List.map_nil]); (done)) ?_; (with_reducible refine (lunettelaw12_awake.calls  false _ A5.out ?sideT).mono ?_); (case sideT => exact Tabs.keep HTB.out (by repeat ((with_reducible (exact HB.out))))); rintro e w16 ⟨rfl, hb⟩; refine ⟨_, rfl, ?_⟩; have n0_ := Aside0.mk (below_step (by repeat ((with_reducible (exact HB.out)))) hb); clear HB; have HB := n0_; clear n0_; (try clear hb)))
   go_meet
   case rel => exact ⟨_, (true), (by (rfl)), H', ⟨by (omega)⟩, ⟨by repeat ((with_reducible (exact HB.out)))⟩⟩
 case rest =>
  clear HC4
  obtain ⟨kq, x27_3, rfl, HA, HJ3, HB⟩ := hcut
  cases kq with
  | zero => exact absurd HA.out (by simp [lunettelaw12_RuleFinds.j0])
  | succ kj3 =>
   have H := HA.out
   clear HA
   simp only [lunettelaw12_RuleFinds.j0] at H
   by_cases c17 : x27_3 = true
   ·subst c17
    have H1 : ((lunettelaw12_awake.f).bind fun t205 => (some t205)) = some r := by rw [if_pos rfl] at H; exact H
    clear H
    have H := H1
    clear H1
    replace H := Option.bind_eq_some_iff.mp H
    obtain ⟨t205, A180, H⟩ := H
    replace H : (some t205) = some r := H
    have A18 := Aside0.mk A180
    clear A180
    obtain rfl := Option.some.inj H
    go_wp2_with (((with_reducible refine gate_callee (f := 9) rfl ?_); refine goesL_ (some 28) rfl rfl Tryz.func9 (by kernel_rfl) rfl #[] rfl (by (try simp only [List.map_toArray, List.map_cons, List.map_nil]); (done)) ?_; (with_reducible refine (lunettelaw12_awake.calls  t205 _ A18.out ?sideT).mono ?_); (case sideT => exact Tabs.keep HTB.out (by repeat ((with_reducible (exact HB.out))))); rintro e w19 ⟨rfl, hb⟩; refine ⟨_, rfl, ?_⟩; have n0_ := Aside0.mk (below_step (by repeat ((with_reducible (exact HB.out)))) hb); clear HB; have HB := n0_; clear n0_; (try clear hb)))
    go_ret
    exact ⟨by (rfl), by repeat ((with_reducible (exact HB.out)))⟩
   ·replace c17 := Bool.eq_false_iff.mpr c17
    subst c17
    have H1 : ((rule_Find.f l0 a1 a2).bind fun bt206 => ((lunetteref12_Find.f kj3 l0 a1 a2).bind fun bt214 => (if (bt206.2.2.2.2 == bt214.2.2.2.2) = true then ((lunetteref12_Same.f kj3 bt206.1 bt206.2.1 bt206.2.2.1 bt206.2.2.2.1 bt214.1 bt214.2.1 bt214.2.2.1 bt214.2.2.2.1).bind fun t222 => (if t222 = true then ((rule_Deep.f kj3 bt206.1 bt206.2.1 bt206.2.2.1 bt206.2.2.2.1).bind fun t223 => ((lunetteref12_Deep.f kj3 bt214.1 bt214.2.1 bt214.2.2.1 bt214.2.2.2.1).bind fun t224 => (if t223 = t224 then ((rule_Size.f kj3 bt206.1 bt206.2.1 bt206.2.2.1 bt206.2.2.2.1).bind fun t225 => ((lunetteref12_Size.f kj3 bt214.1 bt214.2.1 bt214.2.2.1 bt214.2.2.2.1).bind fun t226 => (some (t225 == t226)))) else (some false)))) else (some false))) else (some false)))) = some r := by rw [if_neg (show ¬ (false = true) by decide)] at H; exact H
    clear H
    have H := H1
    clear H1
    replace H := Option.bind_eq_some_iff.mp H
    obtain ⟨⟨t206, t207, t208, t209, t212⟩, A200, H⟩ := H
    replace H : ((lunetteref12_Find.f kj3 l0 a1 a2).bind fun bt214 => (if (t212 == bt214.2.2.2.2) = true then ((lunetteref12_Same.f kj3 t206 t207 t208 t209 bt214.1 bt214.2.1 bt214.2.2.1 bt214.2.2.2.1).bind fun t222 => (if t222 = true then ((rule_Deep.f kj3 t206 t207 t208 t209).bind fun t223 => ((lunetteref12_Deep.f kj3 bt214.1 bt214.2.1 bt214.2.2.1 bt214.2.2.2.1).bind fun t224 => (if t223 = t224 then ((rule_Size.f kj3 t206 t207 t208 t209).bind fun t225 => ((lunetteref12_Size.f kj3 bt214.1 bt214.2.1 bt214.2.2.1 bt214.2.2.2.1).bind fun t226 => (some (t225 == t226)))) else (some false)))) else (some false))) else (some false))) = some r := H
    have A20 := Aside0.mk A200
    clear A200
    replace H := Option.bind_eq_some_iff.mp H
    obtain ⟨⟨t214, t215, t216, t217, t220⟩, A210, H⟩ := H
    replace H : (if (t212 == t220) = true then ((lunetteref12_Same.f kj3 t206 t207 t208 t209 t214 t215 t216 t217).bind fun t222 => (if t222 = true then ((rule_Deep.f kj3 t206 t207 t208 t209).bind fun t223 => ((lunetteref12_Deep.f kj3 t214 t215 t216 t217).bind fun t224 => (if t223 = t224 then ((rule_Size.f kj3 t206 t207 t208 t209).bind fun t225 => ((lunetteref12_Size.f kj3 t214 t215 t216 t217).bind fun t226 => (some (t225 == t226)))) else (some false)))) else (some false))) else (some false)) = some r := H
    have A21 := Aside0.mk A210
    clear A210
    by_cases c22 : (t212 == t220) = true
    ·rw [if_pos c22] at H
     have c22b0 : (t212 == t220) = true := c22
     (try (have c22b1 : decide (t212 = t220) = true := by simpa using c22))
     (try (have c22b2 : (t212 == t220) = true := by simpa using c22))
     clear c22
     replace H := Option.bind_eq_some_iff.mp H
     obtain ⟨t222, A230, H⟩ := H
     replace H : (if t222 = true then ((rule_Deep.f kj3 t206 t207 t208 t209).bind fun t223 => ((lunetteref12_Deep.f kj3 t214 t215 t216 t217).bind fun t224 => (if t223 = t224 then ((rule_Size.f kj3 t206 t207 t208 t209).bind fun t225 => ((lunetteref12_Size.f kj3 t214 t215 t216 t217).bind fun t226 => (some (t225 == t226)))) else (some false)))) else (some false)) = some r := H
     have A23 := Aside0.mk A230
     clear A230
     by_cases c24 : t222 = true
     ·subst c24
      have H1 : ((rule_Deep.f kj3 t206 t207 t208 t209).bind fun t223 => ((lunetteref12_Deep.f kj3 t214 t215 t216 t217).bind fun t224 => (if t223 = t224 then ((rule_Size.f kj3 t206 t207 t208 t209).bind fun t225 => ((lunetteref12_Size.f kj3 t214 t215 t216 t217).bind fun t226 => (some (t225 == t226)))) else (some false)))) = some r := by rw [if_pos rfl] at H; exact H
      clear H
      have H := H1
      clear H1
      replace H := Option.bind_eq_some_iff.mp H
      obtain ⟨t223, A250, H⟩ := H
      replace H : ((lunetteref12_Deep.f kj3 t214 t215 t216 t217).bind fun t224 => (if t223 = t224 then ((rule_Size.f kj3 t206 t207 t208 t209).bind fun t225 => ((lunetteref12_Size.f kj3 t214 t215 t216 t217).bind fun t226 => (some (t225 == t226)))) else (some false))) = some r := H
      have A25 := Aside0.mk A250
      clear A250
      replace H := Option.bind_eq_some_iff.mp H
      obtain ⟨t224, A260, H⟩ := H
      replace H : (if t223 = t224 then ((rule_Size.f kj3 t206 t207 t208 t209).bind fun t225 => ((lunetteref12_Size.f kj3 t214 t215 t216 t217).bind fun t226 => (some (t225 == t226)))) else (some false)) = some r := H
      have A26 := Aside0.mk A260
      clear A260
      by_cases c27 : t223 = t224
      ·rw [if_pos c27] at H
       have c27b0 : (t223 == t224) = true := beq_iff_eq.mpr c27
       have c27b1 : (t223 != t224) = false := bne_eq_false_iff_eq.mpr c27
       clear c27
       replace H := Option.bind_eq_some_iff.mp H
       obtain ⟨t225, A280, H⟩ := H
       replace H : ((lunetteref12_Size.f kj3 t214 t215 t216 t217).bind fun t226 => (some (t225 == t226))) = some r := H
       have A28 := Aside0.mk A280
       clear A280
       replace H := Option.bind_eq_some_iff.mp H
       obtain ⟨t226, A290, H⟩ := H
       replace H : (some (t225 == t226)) = some r := H
       have A29 := Aside0.mk A290
       clear A290
       obtain rfl := Option.some.inj H
       try go_wp2_with (first | ((with_reducible refine gate_callee (f := 17) rfl ?_); refine goesL_ (some 33) rfl rfl Tryz.func17 (by kernel_rfl) rfl #[.slice A0 l0.length c0, .string a1, .string a2] rfl (by (try simp only [List.map_toArray, List.map_cons, List.map_nil]); (rfl)) ?_; (with_reducible refine (rule_Find.calls _ _ l0 a1 a2 t206 t207 t208 t209 t212 _ ?side1 ?side2 A20.out).mono ?_); (case side1 => repeat ((exact (Kd.C_below HR0.out HB.out)))); (case side2 => exact HC0.out); rintro e w30 ⟨v210, rfl, ho0, hb⟩; refine ⟨_, rfl, ?_⟩; have n0_ := Aside0.mk (Kd.R_lower ho0 (below_size (by repeat ((with_reducible (exact HB.out)))))); have n1_ := Aside0.mk (below_step (by repeat ((with_reducible (exact HB.out)))) hb); clear HB; have HO211 := n0_; have HB := n1_; clear n0_ n1_; (try clear hb); (try clear ho0)) | ((with_reducible refine gate_dst (N := 7) rfl ?_); (try (refine gate_guard (by rfl) ?_; dsimp only)); refine box_event ?hg (N := 7) ?hd (cs := #[.string (⟨#[]⟩ : ByteArray), .string (⟨#[]⟩ : ByteArray), .string (⟨#[]⟩ : ByteArray), .slice none 0 0]) (t := 33) ?hr ?_; (case hd => rfl); (case hg => rfl); (case hr => (go_simp; done)); intro gb213 hg w31 hbox hb; have n0_ := Aside0.mk (Kd.R_below (Kd.R_elderB (by (with_reducible repeat ((apply Kd.R_drew))); exact HO211.out) gb213 (Nat.le_of_eq hg.symm)) hb); have n1_ := Aside0.mk (below_step (by repeat ((with_reducible (exact HB.out)))) hb); have n2_ := Aside0.mk (hbox); have n3_ := Aside0.mk ((by rw [hg]; exact (below_size (by repeat ((with_reducible (exact HB.out))))) : w.heap.size ≤ gb213)); have n4_ := Aside0.mk ((by rw [hg]; exact (below_size (by repeat ((with_reducible (exact HB.out))))) : w.heap.size ≤ gb213)); clear HO211; clear HB; have HO211 := n0_; have HB := n1_; have BK213 := n2_; have GW213 := n3_; have GE213 := n4_; clear n0_ n1_ n2_ n3_ n4_; clear hb hbox hg; have hcz32_0 : w31.cell? ⟨gb213, 0, none⟩ = some (.string (⟨#[]⟩ : ByteArray)) := (blk_cell BK213.out 0).trans rfl; have hcz32_1 : w31.cell? ⟨gb213, 1, none⟩ = some (.string (⟨#[]⟩ : ByteArray)) := (blk_cell BK213.out 1).trans rfl; have hcz32_2 : w31.cell? ⟨gb213, 2, none⟩ = some (.string (⟨#[]⟩ : ByteArray)) := (blk_cell BK213.out 2).trans rfl; have hcz32_3 : w31.cell? ⟨gb213, 3, none⟩ = some (.slice none 0 0) := (blk_cell BK213.out 3).trans rfl; have hfz32_0 := blk_frozen BK213.out 0; have hfz32_1 := blk_frozen BK213.out 1; have hfz32_2 := blk_frozen BK213.out 2; have hfz32_3 := blk_frozen BK213.out 3; obtain ⟨Ao33, co33, eo33⟩ := Kd.R_slice HO211.out; subst eo33) | ((with_reducible refine gate_store (t := 33) (p := 7) rfl ?_); refine store_event (t := 33) (p := 7) (v := ?vo_w34) (w1 := ((((w31.setCell ⟨gb213, 0, none⟩ (.string t206)).setCell ⟨gb213, 1, none⟩ (.string t207)).setCell ⟨gb213, 2, none⟩ (.string t208)).setCell ⟨gb213, 3, none⟩ (.slice Ao33 t209.length co33))) ?hg ?ho ?hn ?hr ?_; (case ho => rfl); (case hg => rfl); (case hn => rfl); (case hr => (go_simp; done)); intro w34 hw; have n0_ : Aside0 (Kd.R k33 33 w34 w.heap.size (fun k_ => k_ ≠ gb213) (.slice Ao33 t209.length co33) t209) := ⟨(by rw [hw]; exact (by (with_reducible repeat ((apply Kd.R_drew))); exact Kd.R_mono (Kd.R_far (p := ⟨gb213, 3, none⟩) (Kd.R_far (p := ⟨gb213, 2, none⟩) (Kd.R_far (p := ⟨gb213, 1, none⟩) (Kd.R_far (p := ⟨gb213, 0, none⟩) (Kd.R_mono HO211.out (fun k_ hk => (⟨hk, hk.2⟩ : _ ∧ k_ ≠ gb213))) (fun _ hk => hk.2) (.string t206)) (fun _ hk => hk.2) (.string t207)) (fun _ hk => hk.2) (.string t208)) (fun _ hk => hk.2) (.slice Ao33 t209.length co33)) (fun _ hk => hk.1.2)))⟩; have n1_ : Aside0 (w34.heap[gb213]? = some (.cells #[.string t206, .string t207, .string t208, .slice Ao33 t209.length co33] 33 (0, 0))) := ⟨(by rw [hw]; exact (by (with_reducible repeat ((refine blk_drew ?_))); refine blk_put (cs := #[.string t206, .string t207, .string t208, .slice none 0 0]) ?_ 3 _ rfl; (with_reducible repeat ((refine blk_drew ?_))); refine blk_put (cs := #[.string t206, .string t207, .string (⟨#[]⟩ : ByteArray), .slice none 0 0]) ?_ 2 _ rfl; (with_reducible repeat ((refine blk_drew ?_))); refine blk_put (cs := #[.string t206, .string (⟨#[]⟩ : ByteArray), .string (⟨#[]⟩ : ByteArray), .slice none 0 0]) ?_ 1 _ rfl; (with_reducible repeat ((refine blk_drew ?_))); refine blk_put (cs := #[.string (⟨#[]⟩ : ByteArray), .string (⟨#[]⟩ : ByteArray), .string (⟨#[]⟩ : ByteArray), .slice none 0 0]) ?_ 0 _ rfl; (with_reducible repeat ((refine blk_drew ?_))); exact BK213.out))⟩; have n2_ : Aside0 (Below w.heap.size w w34) := ⟨(by rw [hw]; exact (by repeat ((with_reducible first | exact HB.out | refine below_set ?_ GE213.out))))⟩; clear hw; clear HO211; clear BK213; clear HB; have HO211 := n0_; have BK213 := n1_; have HB := n2_; clear n0_ n1_ n2_) | ((with_reducible refine gate_callee (f := 18) rfl ?_); refine goesL_ (some 40) rfl rfl Tryz.func18 (by kernel_rfl) rfl #[.slice A0 l0.length c0, .string a1, .string a2] rfl (by (try simp only [List.map_toArray, List.map_cons, List.map_nil]); (rfl)) ?_; (with_reducible refine (lunetteref12_Find.calls kj3 (fun k_ => k_ < w.heap.size) _ _ l0 a1 a2 t214 t215 t216 t217 t220 _ ?side1 A21.out).mono ?_); (case side1 => exact Kd.V_mk HC0.out (Kd.F_below (Kd.C_F k30_heap HR0.out) (by repeat ((with_reducible (exact HB.out)))))); rintro e w35 ⟨v218, rfl, ho0, hb⟩; refine ⟨_, rfl, ?_⟩; have n0_ := Aside0.mk (Kd.R_below (by (with_reducible repeat ((apply Kd.R_drew))); exact HO211.out) hb); have n1_ := Aside0.mk (Kd.V_lower (Kd.V_mono (ok' := fun k_ => some k_ ≠ (.slice Ao33 t209.length co33 : Value).ownBlock ∧ k_ ≠ gb213) ho0 (fun k_ hk_ => ⟨Or.elim hk_ (fun hs_ => fun e_ => Nat.not_le.2 hs_ (Kd.R_base HO211.out k_ e_.symm)) (fun hn_ => (Kd.fresh' (Kd.R_lt (by (with_reducible repeat ((apply Kd.R_drew))); exact HO211.out)) k_ hn_)), Or.elim hk_ (fun hs_ => fun e_ => Nat.not_le.2 hs_ (by rw [e_]; exact GW213.out)) (fun hn_ => (Kd.freshB (g := gb213) (o := .cells #[.string t206, .string t207, .string t208, .slice Ao33 t209.length co33] 33 (0, 0)) (by (with_reducible repeat ((refine blk_drew ?_))); exact BK213.out) k_ hn_))⟩)) (below_size (by repeat ((with_reducible (exact HB.out)))))); have n2_ := Aside0.mk (blk_below (g := gb213) (o := .cells #[.string t206, .string t207, .string t208, .slice Ao33 t209.length co33] 33 (0, 0)) (by (with_reducible repeat ((refine blk_drew ?_))); exact BK213.out) hb); have n3_ := Aside0.mk (below_step (by repeat ((with_reducible (exact HB.out)))) hb); clear HO211; clear BK213; clear HB; have HO211 := n0_; have HO219 := n1_; have BK213 := n2_; have HB := n3_; clear n0_ n1_ n2_ n3_; (try clear hb); (try clear ho0)) | ((with_reducible refine gate_dst (N := 9) rfl ?_); (try (refine gate_guard (by rfl) ?_; dsimp only)); refine box_event ?hg (N := 9) ?hd (cs := #[.string (⟨#[]⟩ : ByteArray), .string (⟨#[]⟩ : ByteArray), .string (⟨#[]⟩ : ByteArray), .slice none 0 0]) (t := 33) ?hr ?_; (case hd => rfl); (case hg => rfl); (case hr => (go_simp; done)); intro gb221 hg w36 hbox hb; have n0_ := Aside0.mk (Kd.R_below (Kd.R_elderB (by (with_reducible repeat ((apply Kd.R_drew))); exact HO211.out) gb221 (Nat.le_of_eq hg.symm)) hb); have n1_ := Aside0.mk (Kd.V_below (Kd.V_elderB (by (with_reducible repeat ((apply Kd.V_drew))); exact HO219.out) gb221 (Nat.le_of_eq hg.symm)) hb); have n2_ := Aside0.mk (blk_below (g := gb213) (o := .cells #[.string t206, .string t207, .string t208, .slice Ao33 t209.length co33] 33 (0, 0)) (by (with_reducible repeat ((refine blk_drew ?_))); exact BK213.out) hb); have n3_ := Aside0.mk (below_step (by repeat ((with_reducible (exact HB.out)))) hb); have n4_ := Aside0.mk (hbox); have n5_ := Aside0.mk ((by rw [hg]; exact (below_size (by repeat ((with_reducible (exact HB.out))))) : w.heap.size ≤ gb221)); have n6_ := Aside0.mk ((by rw [hg]; exact (below_size (by repeat ((with_reducible (exact HB.out))))) : w.heap.size ≤ gb221)); have n7_ := Aside0.mk ((by rw [hg]; exact Nat.ne_of_lt (blk_lt (g := gb213) (o := .cells #[.string t206, .string t207, .string t208, .slice Ao33 t209.length co33] 33 (0, 0)) (by (with_reducible repeat ((refine blk_drew ?_))); exact BK213.out)) : gb213 ≠ gb221)); have n8_ := Aside0.mk ((by rw [hg]; exact Nat.ne_of_gt (blk_lt (g := gb213) (o := .cells #[.string t206, .string t207, .string t208, .slice Ao33 t209.length co33] 33 (0, 0)) (by (with_reducible repeat ((refine blk_drew ?_))); exact BK213.out)) : gb221 ≠ gb213)); clear HO211; clear HO219; clear BK213; clear HB; have HO211 := n0_; have HO219 := n1_; have BK213 := n2_; have HB := n3_; have BK221 := n4_; have GW221 := n5_; have GE221 := n6_; have NB213_221 := n7_; have NB221_213 := n8_; clear n0_ n1_ n2_ n3_ n4_ n5_ n6_ n7_ n8_; clear hb hbox hg; have hnb37 := NB221_213.out; have hnc37 := NB213_221.out; have hcz38_0 : w36.cell? ⟨gb221, 0, none⟩ = some (.string (⟨#[]⟩ : ByteArray)) := (blk_cell BK221.out 0).trans rfl; have hcz38_1 : w36.cell? ⟨gb221, 1, none⟩ = some (.string (⟨#[]⟩ : ByteArray)) := (blk_cell BK221.out 1).trans rfl; have hcz38_2 : w36.cell? ⟨gb221, 2, none⟩ = some (.string (⟨#[]⟩ : ByteArray)) := (blk_cell BK221.out 2).trans rfl; have hcz38_3 : w36.cell? ⟨gb221, 3, none⟩ = some (.slice none 0 0) := (blk_cell BK221.out 3).trans rfl; have hfz38_0 := blk_frozen BK221.out 0; have hfz38_1 := blk_frozen BK221.out 1; have hfz38_2 := blk_frozen BK221.out 2; have hfz38_3 := blk_frozen BK221.out 3; obtain ⟨Ao39, co39, eo39⟩ := Kd.V_slice HO219.out; subst eo39))
       have n0_ : Aside0 (Kd.R k33 33 ((((w36.setCell ⟨gb221, 0, none⟩ (.string t214)).setCell ⟨gb221, 1, none⟩ (.string t215)).setCell ⟨gb221, 2, none⟩ (.string t216)).setCell ⟨gb221, 3, none⟩ (.slice Ao39 t217.length co39)) w.heap.size (fun k_ => k_ ≠ gb213 ∧ k_ ≠ gb221) (.slice Ao33 t209.length co33) t209) := ⟨by (with_reducible repeat ((apply Kd.R_drew))); exact Kd.R_mono (Kd.R_far (p := ⟨gb221, 3, none⟩) (Kd.R_far (p := ⟨gb221, 2, none⟩) (Kd.R_far (p := ⟨gb221, 1, none⟩) (Kd.R_far (p := ⟨gb221, 0, none⟩) (Kd.R_mono HO211.out (fun k_ hk => (⟨hk, hk.2⟩ : _ ∧ k_ ≠ gb221))) (fun _ hk => hk.2) (.string t214)) (fun _ hk => hk.2) (.string t215)) (fun _ hk => hk.2) (.string t216)) (fun _ hk => hk.2) (.slice Ao39 t217.length co39)) (fun _ hk => ⟨hk.1.1, hk.1.2⟩)⟩
       have n1_ : Aside0 (Kd.V k33 33 ((((w36.setCell ⟨gb221, 0, none⟩ (.string t214)).setCell ⟨gb221, 1, none⟩ (.string t215)).setCell ⟨gb221, 2, none⟩ (.string t216)).setCell ⟨gb221, 3, none⟩ (.slice Ao39 t217.length co39)) w.heap.size (fun k_ => some k_ ≠ (.slice Ao33 t209.length co33 : Value).ownBlock ∧ k_ ≠ gb213 ∧ k_ ≠ gb221) (.slice Ao39 t217.length co39) t217) := ⟨by (with_reducible repeat ((apply Kd.V_drew))); exact Kd.V_mono (Kd.V_far (p := ⟨gb221, 3, none⟩) (Kd.V_far (p := ⟨gb221, 2, none⟩) (Kd.V_far (p := ⟨gb221, 1, none⟩) (Kd.V_far (p := ⟨gb221, 0, none⟩) (Kd.V_mono HO219.out (fun k_ hk => (⟨hk, hk.2⟩ : _ ∧ k_ ≠ gb221))) (fun _ hk => hk.2) (.string t214)) (fun _ hk => hk.2) (.string t215)) (fun _ hk => hk.2) (.string t216)) (fun _ hk => hk.2) (.slice Ao39 t217.length co39)) (fun _ hk => ⟨hk.1.1.1, ⟨hk.1.1.2, hk.1.2⟩⟩)⟩
       have n2_ : Aside0 (((((w36.setCell ⟨gb221, 0, none⟩ (.string t214)).setCell ⟨gb221, 1, none⟩ (.string t215)).setCell ⟨gb221, 2, none⟩ (.string t216)).setCell ⟨gb221, 3, none⟩ (.slice Ao39 t217.length co39)).heap[gb213]? = some (.cells #[.string t206, .string t207, .string t208, .slice Ao33 t209.length co33] 33 (0, 0))) := ⟨by (with_reducible repeat ((refine blk_drew ?_))); refine blk_far ?_ NB213_221.out _; (with_reducible repeat ((refine blk_drew ?_))); refine blk_far ?_ NB213_221.out _; (with_reducible repeat ((refine blk_drew ?_))); refine blk_far ?_ NB213_221.out _; (with_reducible repeat ((refine blk_drew ?_))); refine blk_far ?_ NB213_221.out _; (with_reducible repeat ((refine blk_drew ?_))); exact BK213.out⟩
       have n3_ : Aside0 (((((w36.setCell ⟨gb221, 0, none⟩ (.string t214)).setCell ⟨gb221, 1, none⟩ (.string t215)).setCell ⟨gb221, 2, none⟩ (.string t216)).setCell ⟨gb221, 3, none⟩ (.slice Ao39 t217.length co39)).heap[gb221]? = some (.cells #[.string t214, .string t215, .string t216, .slice Ao39 t217.length co39] 33 (0, 0))) := ⟨by (with_reducible repeat ((refine blk_drew ?_))); refine blk_put (cs := #[.string t214, .string t215, .string t216, .slice none 0 0]) ?_ 3 _ rfl; (with_reducible repeat ((refine blk_drew ?_))); refine blk_put (cs := #[.string t214, .string t215, .string (⟨#[]⟩ : ByteArray), .slice none 0 0]) ?_ 2 _ rfl; (with_reducible repeat ((refine blk_drew ?_))); refine blk_put (cs := #[.string t214, .string (⟨#[]⟩ : ByteArray), .string (⟨#[]⟩ : ByteArray), .slice none 0 0]) ?_ 1 _ rfl; (with_reducible repeat ((refine blk_drew ?_))); refine blk_put (cs := #[.string (⟨#[]⟩ : ByteArray), .string (⟨#[]⟩ : ByteArray), .string (⟨#[]⟩ : ByteArray), .slice none 0 0]) ?_ 0 _ rfl; (with_reducible repeat ((refine blk_drew ?_))); exact BK221.out⟩
       have n4_ : Aside0 (Below w.heap.size w ((((w36.setCell ⟨gb221, 0, none⟩ (.string t214)).setCell ⟨gb221, 1, none⟩ (.string t215)).setCell ⟨gb221, 2, none⟩ (.string t216)).setCell ⟨gb221, 3, none⟩ (.slice Ao39 t217.length co39))) := ⟨by repeat ((with_reducible first | exact HB.out | refine below_set ?_ GE221.out))⟩
       (try clear HO211)
       (try clear HO219)
       (try clear BK213)
       (try clear BK221)
       (try clear HB)
       generalize ((((w36.setCell ⟨gb221, 0, none⟩ (.string t214)).setCell ⟨gb221, 1, none⟩ (.string t215)).setCell ⟨gb221, 2, none⟩ (.string t216)).setCell ⟨gb221, 3, none⟩ (.slice Ao39 t217.length co39)) = w40 at n0_ n1_ n2_ n3_ n4_ ⊢
       have HO211 := n0_
       have HO219 := n1_
       have BK213 := n2_
       have BK221 := n3_
       have HB := n4_
       clear n0_ n1_ n2_ n3_ n4_
       have n0_ := Aside0.mk (Kd.R_drew HO211.out)
       have n1_ := Aside0.mk (Kd.V_drew HO219.out)
       have n2_ := Aside0.mk (blk_drew BK213.out)
       have n3_ := Aside0.mk (blk_drew BK221.out)
       have n4_ := Aside0.mk (below_drew1 HB.out)
       clear HO211
       clear HO219
       clear BK213
       clear BK221
       clear HB
       have HO211 := n0_
       have HO219 := n1_
       have BK213 := n2_
       have BK221 := n3_
       have HB := n4_
       clear n0_ n1_ n2_ n3_ n4_
       refine start_ (n := 23) (S := fun w' => w'.cell? ⟨gb213, 0, none⟩ = some (.string t206) ∧ w'.cell? ⟨gb213, 1, none⟩ = some (.string t207) ∧ w'.cell? ⟨gb213, 2, none⟩ = some (.string t208) ∧ w'.cell? ⟨gb213, 3, none⟩ = some (.slice Ao33 t209.length co33) ∧ w'.cell? ⟨gb221, 0, none⟩ = some (.string t214) ∧ w'.cell? ⟨gb221, 1, none⟩ = some (.string t215) ∧ w'.cell? ⟨gb221, 2, none⟩ = some (.string t216) ∧ w'.cell? ⟨gb221, 3, none⟩ = some (.slice Ao39 t217.length co39)) (ds := []) #[false, false, false, false, false, false, false, false, false, false, false, false, false, false, false, false, false, false, false, false, false, false, false] (by kernel_rfl) rfl rfl ⟨(blk_cell BK213.out 0).trans rfl, (blk_cell BK213.out 1).trans rfl, (blk_cell BK213.out 2).trans rfl, (blk_cell BK213.out 3).trans rfl, (blk_cell BK221.out 0).trans rfl, (blk_cell BK221.out 1).trans rfl, (blk_cell BK221.out 2).trans rfl, (blk_cell BK221.out 3).trans rfl⟩ (fun hHeld => ?_); refine with_tabW lunettelaw12_RuleFinds.tab5 lunettelaw12_RuleFinds.bits5 (fun HT_ HW_ => ?_)
       generalize w40.drew = w41 at HO211 HO219 BK213 BK221 HB hHeld ⊢
       refine pure_ (i := 0) (N := some 43) (v := ?_) (a' := ?_) #[true, false, false, false, false, false, false, false, false, false, false, false, false, false, false, false, false, false, false, false, false, false, false] rfl rfl (any_of HT_.out (by kernel_rfl)) (fun _ _ _ h => h) (Or.inl ⟨by rfl, ?_⟩) ?_ ?_
       rotate_left
       ·intro w'
        go_simp
        with_reducible rfl
       rotate_left
       ·simp only [Act.put, List.setIfInBounds_toArray, List.set_cons_zero, List.set_cons_succ, i64_w, i32_w]
        rfl
       refine pure_ (i := 1) (N := some 44) (v := ?_) (a' := ?_) #[true, true, false, false, false, false, false, false, false, false, false, false, false, false, false, false, false, false, false, false, false, false, false] rfl rfl (any_of HT_.out (by kernel_rfl)) (fun _ _ _ h => h) (Or.inl ⟨by rfl, ?_⟩) ?_ ?_
       rotate_left
       ·intro w'
        go_simp
        with_reducible rfl
       rotate_left
       ·simp only [Act.put, List.setIfInBounds_toArray, List.set_cons_zero, List.set_cons_succ, i64_w, i32_w]
        rfl
       refine pure_ (i := 2) (N := some 45) (v := ?_) (a' := ?_) #[true, true, true, false, false, false, false, false, false, false, false, false, false, false, false, false, false, false, false, false, false, false, false] rfl rfl (any_of HT_.out (by kernel_rfl)) (fun _ _ _ h => h) (Or.inl ⟨by rfl, ?_⟩) ?_ ?_
       rotate_left
       ·intro w'
        go_simp
        with_reducible rfl
       rotate_left
       ·simp only [Act.put, List.setIfInBounds_toArray, List.set_cons_zero, List.set_cons_succ, i64_w, i32_w]
        rfl
       refine pure_ (i := 3) (N := some 46) (v := ?_) (a' := ?_) #[true, true, true, true, false, false, false, false, false, false, false, false, false, false, false, false, false, false, false, false, false, false, false] rfl rfl (any_of HT_.out (by kernel_rfl)) (fun _ _ _ h => h) (Or.inl ⟨by rfl, ?_⟩) ?_ ?_
       rotate_left
       ·intro w'
        go_simp
        with_reducible rfl
       rotate_left
       ·simp only [Act.put, List.setIfInBounds_toArray, List.set_cons_zero, List.set_cons_succ, i64_w, i32_w]
        rfl
       refine take_ (i := 4) (N := some 47) (v := ?_) (a' := ?_) #[true, true, true, true, true, false, false, false, false, false, false, false, false, false, false, false, false, false, false, false, false, false, false] rfl rfl (take_ofW HT_.out HW_.out (by kernel_rfl)) (fun _ _ _ h => h) (Or.inl ⟨by rfl, ?_⟩) hHeld ?_ ?_
       rotate_left
       ·rintro w' ⟨s0, s1, s2, s3, s4, s5, s6, s7⟩
        go_simp
        with_reducible rfl
       rotate_left
       ·simp only [Act.put, List.setIfInBounds_toArray, List.set_cons_zero, List.set_cons_succ, i64_w, i32_w]
        rfl
       refine take_ (i := 5) (N := some 48) (v := ?_) (a' := ?_) #[true, true, true, true, true, true, false, false, false, false, false, false, false, false, false, false, false, false, false, false, false, false, false] rfl rfl (take_ofW HT_.out HW_.out (by kernel_rfl)) (fun _ _ _ h => h) (Or.inl ⟨by rfl, ?_⟩) hHeld ?_ ?_
       rotate_left
       ·rintro w' ⟨s0, s1, s2, s3, s4, s5, s6, s7⟩
        go_simp
        with_reducible rfl
       rotate_left
       ·simp only [Act.put, List.setIfInBounds_toArray, List.set_cons_zero, List.set_cons_succ, i64_w, i32_w]
        rfl
       refine one_ (i := 6) (N := some 49) #[true, true, true, true, true, true, true, false, false, false, false, false, false, false, false, false, false, false, false, false, false, false, false] rfl rfl (one_of HT_.out (by kernel_rfl)) (by decide) (fun K hK => ?_)
       refine goes_ Tryz.func19 (by kernel_rfl) rfl #[.agg #[.string t206, .string t207, .string t208, .slice Ao33 t209.length co33], .agg #[.string t214, .string t215, .string t216, .slice Ao39 t217.length co39]] (by rfl) rfl rfl (by (try simp only [List.map_toArray, List.map_cons, List.map_nil]); (rfl)) ?_
       with_reducible refine (lunetteref12_Same.calls kj3 t206 t207 t208 _ _ t209 t214 t215 t216 _ _ t217 true _ ?side1 ?side2 ?side3 ?side4 A23.out).mono ?_
       (case side1 => repeat ((exact (Kd.R_reads' HO211.out).2.2)))
       (case side2 => exact (Kd.R_reads' HO211.out).2.1)
       (case side3 => repeat ((exact (Kd.V_reads' HO219.out).2.2)))
       (case side4 => exact (Kd.V_reads' HO219.out).2.1)
       rintro e w42 ⟨rfl, hb⟩
       refine ⟨_, rfl, ?_⟩
       have n0_ := Aside0.mk (Kd.R_below (by (with_reducible repeat ((apply Kd.R_drew))); exact HO211.out) hb)
       have n1_ := Aside0.mk (Kd.V_below (by (with_reducible repeat ((apply Kd.V_drew))); exact HO219.out) hb)
       have n2_ := Aside0.mk (blk_below (g := gb213) (o := .cells #[.string t206, .string t207, .string t208, .slice Ao33 t209.length co33] 33 (0, 0)) (by (with_reducible repeat ((refine blk_drew ?_))); exact BK213.out) hb)
       have n3_ := Aside0.mk (blk_below (g := gb221) (o := .cells #[.string t214, .string t215, .string t216, .slice Ao39 t217.length co39] 33 (0, 0)) (by (with_reducible repeat ((refine blk_drew ?_))); exact BK221.out) hb)
       have n4_ := Aside0.mk (below_step (by repeat ((with_reducible (exact HB.out)))) hb)
       clear HO211
       clear HO219
       clear BK213
       clear BK221
       clear HB
       have HO211 := n0_
       have HO219 := n1_
       have BK213 := n2_
       have BK221 := n3_
       have HB := n4_
       clear n0_ n1_ n2_ n3_ n4_
       (try clear hb)
       refine hK.out _ _ ⟨(blk_cell BK213.out 0).trans rfl, (blk_cell BK213.out 1).trans rfl, (blk_cell BK213.out 2).trans rfl, (blk_cell BK213.out 3).trans rfl, (blk_cell BK221.out 0).trans rfl, (blk_cell BK221.out 1).trans rfl, (blk_cell BK221.out 2).trans rfl, (blk_cell BK221.out 3).trans rfl⟩ (fun hHeld => ?_)
       clear hK K
       refine norm_ (a' := ?_) ?_ ?_
       rotate_left
       ·show Act.put _ (some 49) _ = _
        simp only [Act.put, List.setIfInBounds_toArray, List.set_cons_zero, List.set_cons_succ, i64_w, i32_w]
        rfl
       refine pure_ (i := 7) (N := some 50) (v := ?_) (a' := ?_) #[true, true, true, true, true, true, true, true, false, false, false, false, false, false, false, false, false, false, false, false, false, false, false] rfl rfl (any_of HT_.out (by kernel_rfl)) (fun _ _ _ h => h) (Or.inl ⟨by rfl, ?_⟩) ?_ ?_
       rotate_left
       ·intro w'
        go_simp
        with_reducible rfl
       rotate_left
       ·simp only [Act.put, List.setIfInBounds_toArray, List.set_cons_zero, List.set_cons_succ, i64_w, i32_w]
        rfl
       refine pure_ (i := 8) (N := some 51) (v := ?_) (a' := ?_) #[true, true, true, true, true, true, true, true, true, false, false, false, false, false, false, false, false, false, false, false, false, false, false] rfl rfl (any_of HT_.out (by kernel_rfl)) (fun _ _ _ h => h) (Or.inl ⟨by rfl, ?_⟩) ?_ ?_
       rotate_left
       ·intro w'
        go_simp
        with_reducible rfl
       rotate_left
       ·simp only [Act.put, List.setIfInBounds_toArray, List.set_cons_zero, List.set_cons_succ, i64_w, i32_w]
        rfl
       refine take_ (i := 9) (N := some 52) (v := ?_) (a' := ?_) #[true, true, true, true, true, true, true, true, true, true, false, false, false, false, false, false, false, false, false, false, false, false, false] rfl rfl (take_ofW HT_.out HW_.out (by kernel_rfl)) (fun _ _ _ h => h) (Or.inl ⟨by rfl, ?_⟩) hHeld ?_ ?_
       rotate_left
       ·rintro w' ⟨s0, s1, s2, s3, s4, s5, s6, s7⟩
        go_simp
        with_reducible rfl
       rotate_left
       ·simp only [Act.put, List.setIfInBounds_toArray, List.set_cons_zero, List.set_cons_succ, i64_w, i32_w]
        rfl
       refine take_ (i := 11) (N := some 54) (v := ?_) (a' := ?_) #[true, true, true, true, true, true, true, true, true, true, false, true, false, false, false, false, false, false, false, false, false, false, false] rfl rfl (take_ofW HT_.out HW_.out (by kernel_rfl)) (fun _ _ _ h => h) (Or.inl ⟨by rfl, ?_⟩) hHeld ?_ ?_
       rotate_left
       ·rintro w' ⟨s0, s1, s2, s3, s4, s5, s6, s7⟩
        go_simp
        with_reducible rfl
       rotate_left
       ·simp only [Act.put, List.setIfInBounds_toArray, List.set_cons_zero, List.set_cons_succ, i64_w, i32_w]
        rfl
       refine one_ (i := 10) (N := some 53) #[true, true, true, true, true, true, true, true, true, true, true, true, false, false, false, false, false, false, false, false, false, false, false] rfl rfl (one_of HT_.out (by kernel_rfl)) (by decide) (fun K hK => ?_)
       refine goes_ Tryz.func12 (by kernel_rfl) rfl #[.agg #[.string t206, .string t207, .string t208, .slice Ao33 t209.length co33]] (by rfl) rfl rfl (by (try simp only [List.map_toArray, List.map_cons, List.map_nil]); (rfl)) ?_
       with_reducible refine (rule_Deep.calls kj3 t206 t207 t208 _ _ t209 t223 _ ?side1 ?side2 A25.out).mono ?_
       (case side1 => repeat ((exact (Kd.R_reads' HO211.out).2.2)))
       (case side2 => exact (Kd.R_reads' HO211.out).2.1)
       rintro e w43 ⟨rfl, hb⟩
       refine ⟨_, rfl, ?_⟩
       have n0_ := Aside0.mk (Kd.R_below (by (with_reducible repeat ((apply Kd.R_drew))); exact HO211.out) hb)
       have n1_ := Aside0.mk (Kd.V_below (by (with_reducible repeat ((apply Kd.V_drew))); exact HO219.out) hb)
       have n2_ := Aside0.mk (blk_below (g := gb213) (o := .cells #[.string t206, .string t207, .string t208, .slice Ao33 t209.length co33] 33 (0, 0)) (by (with_reducible repeat ((refine blk_drew ?_))); exact BK213.out) hb)
       have n3_ := Aside0.mk (blk_below (g := gb221) (o := .cells #[.string t214, .string t215, .string t216, .slice Ao39 t217.length co39] 33 (0, 0)) (by (with_reducible repeat ((refine blk_drew ?_))); exact BK221.out) hb)
       have n4_ := Aside0.mk (below_step (by repeat ((with_reducible (exact HB.out)))) hb)
       clear HO211
       clear HO219
       clear BK213
       clear BK221
       clear HB
       have HO211 := n0_
       have HO219 := n1_
       have BK213 := n2_
       have BK221 := n3_
       have HB := n4_
       clear n0_ n1_ n2_ n3_ n4_
       (try clear hb)
       refine hK.out _ _ ⟨(blk_cell BK213.out 0).trans rfl, (blk_cell BK213.out 1).trans rfl, (blk_cell BK213.out 2).trans rfl, (blk_cell BK213.out 3).trans rfl, (blk_cell BK221.out 0).trans rfl, (blk_cell BK221.out 1).trans rfl, (blk_cell BK221.out 2).trans rfl, (blk_cell BK221.out 3).trans rfl⟩ (fun hHeld => ?_)
       clear hK K
       refine norm_ (a' := ?_) ?_ ?_
       rotate_left
       ·show Act.put _ (some 53) _ = _
        simp only [Act.put, List.setIfInBounds_toArray, List.set_cons_zero, List.set_cons_succ, i64_w, i32_w]
        rfl
       refine one_ (i := 12) (N := some 55) #[true, true, true, true, true, true, true, true, true, true, true, true, true, false, false, false, false, false, false, false, false, false, false] rfl rfl (one_of HT_.out (by kernel_rfl)) (by decide) (fun K hK => ?_)
       refine goes_ Tryz.func20 (by kernel_rfl) rfl #[.agg #[.string t214, .string t215, .string t216, .slice Ao39 t217.length co39]] (by rfl) rfl rfl (by (try simp only [List.map_toArray, List.map_cons, List.map_nil]); (rfl)) ?_
       with_reducible refine (lunetteref12_Deep.calls kj3 t214 t215 t216 _ _ t217 t224 _ ?side1 ?side2 A26.out).mono ?_
       (case side1 => repeat ((exact (Kd.V_reads' HO219.out).2.2)))
       (case side2 => exact (Kd.V_reads' HO219.out).2.1)
       rintro e w44 ⟨rfl, hb⟩
       refine ⟨_, rfl, ?_⟩
       have n0_ := Aside0.mk (Kd.R_below (by (with_reducible repeat ((apply Kd.R_drew))); exact HO211.out) hb)
       have n1_ := Aside0.mk (Kd.V_below (by (with_reducible repeat ((apply Kd.V_drew))); exact HO219.out) hb)
       have n2_ := Aside0.mk (blk_below (g := gb213) (o := .cells #[.string t206, .string t207, .string t208, .slice Ao33 t209.length co33] 33 (0, 0)) (by (with_reducible repeat ((refine blk_drew ?_))); exact BK213.out) hb)
       have n3_ := Aside0.mk (blk_below (g := gb221) (o := .cells #[.string t214, .string t215, .string t216, .slice Ao39 t217.length co39] 33 (0, 0)) (by (with_reducible repeat ((refine blk_drew ?_))); exact BK221.out) hb)
       have n4_ := Aside0.mk (below_step (by repeat ((with_reducible (exact HB.out)))) hb)
       clear HO211
       clear HO219
       clear BK213
       clear BK221
       clear HB
       have HO211 := n0_
       have HO219 := n1_
       have BK213 := n2_
       have BK221 := n3_
       have HB := n4_
       clear n0_ n1_ n2_ n3_ n4_
       (try clear hb)
       refine hK.out _ _ ⟨(blk_cell BK213.out 0).trans rfl, (blk_cell BK213.out 1).trans rfl, (blk_cell BK213.out 2).trans rfl, (blk_cell BK213.out 3).trans rfl, (blk_cell BK221.out 0).trans rfl, (blk_cell BK221.out 1).trans rfl, (blk_cell BK221.out 2).trans rfl, (blk_cell BK221.out 3).trans rfl⟩ (fun hHeld => ?_)
       clear hK K
       refine norm_ (a' := ?_) ?_ ?_
       rotate_left
       ·show Act.put _ (some 55) _ = _
        simp only [Act.put, List.setIfInBounds_toArray, List.set_cons_zero, List.set_cons_succ, i64_w, i32_w]
        rfl
       refine pure_ (i := 13) (N := some 56) (v := ?_) (a' := ?_) #[true, true, true, true, true, true, true, true, true, true, true, true, true, true, false, false, false, false, false, false, false, false, false] rfl rfl (any_of HT_.out (by kernel_rfl)) (fun _ _ _ h => h) (Or.inl ⟨by rfl, ?_⟩) ?_ ?_
       rotate_left
       ·intro w'
        go_simp
        with_reducible rfl
       rotate_left
       ·simp only [Act.put, List.setIfInBounds_toArray, List.set_cons_zero, List.set_cons_succ, i64_w, i32_w]
        rfl
       refine pure_ (i := 14) (N := some 57) (v := ?_) (a' := ?_) #[true, true, true, true, true, true, true, true, true, true, true, true, true, true, true, false, false, false, false, false, false, false, false] rfl rfl (any_of HT_.out (by kernel_rfl)) (fun _ _ _ h => h) (Or.inl ⟨by rfl, ?_⟩) ?_ ?_
       rotate_left
       ·intro w'
        go_simp
        with_reducible rfl
       rotate_left
       ·simp only [Act.put, List.setIfInBounds_toArray, List.set_cons_zero, List.set_cons_succ, i64_w, i32_w]
        rfl
       refine pure_ (i := 15) (N := some 58) (v := ?_) (a' := ?_) #[true, true, true, true, true, true, true, true, true, true, true, true, true, true, true, true, false, false, false, false, false, false, false] rfl rfl (any_of HT_.out (by kernel_rfl)) (fun _ _ _ h => h) (Or.inl ⟨by rfl, ?_⟩) ?_ ?_
       rotate_left
       ·intro w'
        go_simp
        with_reducible rfl
       rotate_left
       ·simp only [Act.put, List.setIfInBounds_toArray, List.set_cons_zero, List.set_cons_succ, i64_w, i32_w]
        rfl
       refine take_ (i := 16) (N := some 59) (v := ?_) (a' := ?_) #[true, true, true, true, true, true, true, true, true, true, true, true, true, true, true, true, true, false, false, false, false, false, false] rfl rfl (take_ofW HT_.out HW_.out (by kernel_rfl)) (fun _ _ _ h => h) (Or.inl ⟨by rfl, ?_⟩) hHeld ?_ ?_
       rotate_left
       ·rintro w' ⟨s0, s1, s2, s3, s4, s5, s6, s7⟩
        go_simp
        with_reducible rfl
       rotate_left
       ·simp only [Act.put, List.setIfInBounds_toArray, List.set_cons_zero, List.set_cons_succ, i64_w, i32_w]
        rfl
       refine take_ (i := 18) (N := some 61) (v := ?_) (a' := ?_) #[true, true, true, true, true, true, true, true, true, true, true, true, true, true, true, true, true, false, true, false, false, false, false] rfl rfl (take_ofW HT_.out HW_.out (by kernel_rfl)) (fun _ _ _ h => h) (Or.inl ⟨by rfl, ?_⟩) hHeld ?_ ?_
       rotate_left
       ·rintro w' ⟨s0, s1, s2, s3, s4, s5, s6, s7⟩
        go_simp
        with_reducible rfl
       rotate_left
       ·simp only [Act.put, List.setIfInBounds_toArray, List.set_cons_zero, List.set_cons_succ, i64_w, i32_w]
        rfl
       refine one_ (i := 17) (N := some 60) #[true, true, true, true, true, true, true, true, true, true, true, true, true, true, true, true, true, true, true, false, false, false, false] rfl rfl (one_of HT_.out (by kernel_rfl)) (by decide) (fun K hK => ?_)
       refine goes_ Tryz.func13 (by kernel_rfl) rfl #[.agg #[.string t206, .string t207, .string t208, .slice Ao33 t209.length co33]] (by rfl) rfl rfl (by (try simp only [List.map_toArray, List.map_cons, List.map_nil]); (rfl)) ?_
       with_reducible refine (rule_Size.calls kj3 t206 t207 t208 _ _ t209 t225 _ ?side1 ?side2 A28.out).mono ?_
       (case side1 => repeat ((exact (Kd.R_reads' HO211.out).2.2)))
       (case side2 => exact (Kd.R_reads' HO211.out).2.1)
       rintro e w45 ⟨rfl, hb⟩
       refine ⟨_, rfl, ?_⟩
       have n0_ := Aside0.mk (Kd.R_below (by (with_reducible repeat ((apply Kd.R_drew))); exact HO211.out) hb)
       have n1_ := Aside0.mk (Kd.V_below (by (with_reducible repeat ((apply Kd.V_drew))); exact HO219.out) hb)
       have n2_ := Aside0.mk (blk_below (g := gb213) (o := .cells #[.string t206, .string t207, .string t208, .slice Ao33 t209.length co33] 33 (0, 0)) (by (with_reducible repeat ((refine blk_drew ?_))); exact BK213.out) hb)
       have n3_ := Aside0.mk (blk_below (g := gb221) (o := .cells #[.string t214, .string t215, .string t216, .slice Ao39 t217.length co39] 33 (0, 0)) (by (with_reducible repeat ((refine blk_drew ?_))); exact BK221.out) hb)
       have n4_ := Aside0.mk (below_step (by repeat ((with_reducible (exact HB.out)))) hb)
       clear HO211
       clear HO219
       clear BK213
       clear BK221
       clear HB
       have HO211 := n0_
       have HO219 := n1_
       have BK213 := n2_
       have BK221 := n3_
       have HB := n4_
       clear n0_ n1_ n2_ n3_ n4_
       (try clear hb)
       refine hK.out _ _ ⟨(blk_cell BK213.out 0).trans rfl, (blk_cell BK213.out 1).trans rfl, (blk_cell BK213.out 2).trans rfl, (blk_cell BK213.out 3).trans rfl, (blk_cell BK221.out 0).trans rfl, (blk_cell BK221.out 1).trans rfl, (blk_cell BK221.out 2).trans rfl, (blk_cell BK221.out 3).trans rfl⟩ (fun hHeld => ?_)
       clear hK K
       refine norm_ (a' := ?_) ?_ ?_
       rotate_left
       ·show Act.put _ (some 60) _ = _
        simp only [Act.put, List.setIfInBounds_toArray, List.set_cons_zero, List.set_cons_succ, i64_w, i32_w]
        rfl
       refine one_ (i := 19) (N := some 62) #[true, true, true, true, true, true, true, true, true, true, true, true, true, true, true, true, true, true, true, true, false, false, false] rfl rfl (one_of HT_.out (by kernel_rfl)) (by decide) (fun K hK => ?_)
       refine goes_ Tryz.func21 (by kernel_rfl) rfl #[.agg #[.string t214, .string t215, .string t216, .slice Ao39 t217.length co39]] (by rfl) rfl rfl (by (try simp only [List.map_toArray, List.map_cons, List.map_nil]); (rfl)) ?_
       with_reducible refine (lunetteref12_Size.calls kj3 t214 t215 t216 _ _ t217 t226 _ ?side1 ?side2 A29.out).mono ?_
       (case side1 => repeat ((exact (Kd.V_reads' HO219.out).2.2)))
       (case side2 => exact (Kd.V_reads' HO219.out).2.1)
       rintro e w46 ⟨rfl, hb⟩
       refine ⟨_, rfl, ?_⟩
       have n0_ := Aside0.mk (Kd.R_below (by (with_reducible repeat ((apply Kd.R_drew))); exact HO211.out) hb)
       have n1_ := Aside0.mk (Kd.V_below (by (with_reducible repeat ((apply Kd.V_drew))); exact HO219.out) hb)
       have n2_ := Aside0.mk (blk_below (g := gb213) (o := .cells #[.string t206, .string t207, .string t208, .slice Ao33 t209.length co33] 33 (0, 0)) (by (with_reducible repeat ((refine blk_drew ?_))); exact BK213.out) hb)
       have n3_ := Aside0.mk (blk_below (g := gb221) (o := .cells #[.string t214, .string t215, .string t216, .slice Ao39 t217.length co39] 33 (0, 0)) (by (with_reducible repeat ((refine blk_drew ?_))); exact BK221.out) hb)
       have n4_ := Aside0.mk (below_step (by repeat ((with_reducible (exact HB.out)))) hb)
       clear HO211
       clear HO219
       clear BK213
       clear BK221
       clear HB
       have HO211 := n0_
       have HO219 := n1_
       have BK213 := n2_
       have BK221 := n3_
       have HB := n4_
       clear n0_ n1_ n2_ n3_ n4_
       (try clear hb)
       refine hK.out _ _ ⟨(blk_cell BK213.out 0).trans rfl, (blk_cell BK213.out 1).trans rfl, (blk_cell BK213.out 2).trans rfl, (blk_cell BK213.out 3).trans rfl, (blk_cell BK221.out 0).trans rfl, (blk_cell BK221.out 1).trans rfl, (blk_cell BK221.out 2).trans rfl, (blk_cell BK221.out 3).trans rfl⟩ (fun hHeld => ?_)
       clear hK K
       refine norm_ (a' := ?_) ?_ ?_
       rotate_left
       ·show Act.put _ (some 62) _ = _
        simp only [Act.put, List.setIfInBounds_toArray, List.set_cons_zero, List.set_cons_succ, i64_w, i32_w]
        rfl
       refine pure_ (i := 20) (N := some 63) (v := ?_) (a' := ?_) #[true, true, true, true, true, true, true, true, true, true, true, true, true, true, true, true, true, true, true, true, true, false, false] rfl rfl (any_of HT_.out (by kernel_rfl)) (fun _ _ _ h => h) (Or.inl ⟨by rfl, ?_⟩) ?_ ?_
       rotate_left
       ·intro w'
        go_simp
        with_reducible rfl
       rotate_left
       ·simp only [Act.put, List.setIfInBounds_toArray, List.set_cons_zero, List.set_cons_succ, i64_w, i32_w]
        rfl
       refine pure_ (i := 21) (N := some 64) (v := ?_) (a' := ?_) #[true, true, true, true, true, true, true, true, true, true, true, true, true, true, true, true, true, true, true, true, true, true, false] rfl rfl (any_of HT_.out (by kernel_rfl)) (fun _ _ _ h => h) (Or.inl ⟨by rfl, ?_⟩) ?_ ?_
       rotate_left
       ·intro w'
        go_simp
        with_reducible rfl
       rotate_left
       ·simp only [Act.put, List.setIfInBounds_toArray, List.set_cons_zero, List.set_cons_succ, i64_w, i32_w]
        rfl
       refine pure_ (i := 22) (N := some 6) (v := ?_) (a' := ?_) #[true, true, true, true, true, true, true, true, true, true, true, true, true, true, true, true, true, true, true, true, true, true, true] rfl rfl (any_of HT_.out (by kernel_rfl)) (fun _ _ _ h => h) (Or.inl ⟨by rfl, ?_⟩) ?_ ?_
       rotate_left
       ·intro w'
        go_simp
        with_reducible rfl
       rotate_left
       ·simp only [Act.put, List.setIfInBounds_toArray, List.set_cons_zero, List.set_cons_succ, i64_w, i32_w]
        rfl
       refine done_ (done_of HT_.out (by kernel_rfl)) ?_
       try go_wp2
       go_ret
       exact ⟨by (rfl), by repeat ((with_reducible (exact HB.out)))⟩
      ·rw [if_neg c27] at H
       have c27b0 : (t223 == t224) = false := beq_eq_false_iff_ne.mpr c27
       have c27b1 : (t223 != t224) = true := bne_iff_ne.mpr c27
       exact absurd ((Option.some.inj H).trans HTRUE.out) (by decide)
     ·replace c24 := Bool.eq_false_iff.mpr c24
      subst c24
      have H1 : (some false) = some r := by rw [if_neg (show ¬ (false = true) by decide)] at H; exact H
      clear H
      have H := H1
      clear H1
      exact absurd ((Option.some.inj H).trans HTRUE.out) (by decide)
    ·rw [if_neg c22] at H
     have c22b0 : (t212 == t220) = false := by simpa using c22
     (try (have c22b1 : decide (t212 = t220) = false := by simpa using c22))
     (try (have c22b2 : (t212 == t220) = false := by simpa using c22))
     (try (have c22b3 : ¬ (t212 = t220) := by simpa using c22))
     clear c22
     exact absurd ((Option.some.inj H).trans HTRUE.out) (by decide)
end Go.Proofs.YtjcipbdocbomjaaGreatDoor.K
namespace Go.Proofs.YtjcipbdocbomjaaGreatDoor.K
theorem idx_find {α : Type} (P : α → Bool) (l : List α) : (idxP P l < 0 ∧ l.find? P = none) ∨ ∃ (i : Nat) (hi : i < l.length), idxP P l = (i : Int) ∧ l.find? P = some l[i] := by
 unfold idxP
 cases h : l.findIdx? P with
 | none =>
  refine .inl ⟨by show (-1 : Int) < 0; omega, ?_⟩
  rw [List.findIdx?_eq_none_iff] at h
  rw [List.find?_eq_none]
  intro x hx
  rw [h x hx]; decide
 | some i =>
  rw [List.findIdx?_eq_some_iff_getElem] at h
  obtain ⟨hi, h1, h2⟩ := h
  refine .inr ⟨i, hi, rfl, ?_⟩
  rw [List.find?_eq_some_iff_getElem]
  exact ⟨h1, i, hi, rfl, fun j hj => by simpa using h2 j hj⟩
def findE (b : ByteArray) (o : Option S35) : FindR := match o with | none => findNo | some r => (r.f1.f0, r.f1.f1, r.f1.f2, r.f1.f3, true)
def findK (b : ByteArray) (o : Option S30) : FindR := match o with | none => findNo | some k => findE b (k.f1.find? (hasP b))
theorem find_two (l : List S30) (a b : ByteArray) : findP l a b = findK b (l.find? (kindP a)) := by
 unfold findP
 rcases idx_find (kindP a) l with ⟨h1, h2⟩ | ⟨i, hi, h1, h2⟩
 ·rw [if_pos h1, h2]; rfl
 ·rw [h1, if_neg (by omega), h2, rd30 hi]
  show _ = findE b (l[i].f1.find? (hasP b))
  rcases idx_find (hasP b) l[i].f1 with ⟨h3, h4⟩ | ⟨j, hj, h3, h4⟩
  ·rw [if_pos h3, h4]; rfl
  ·rw [h3, if_neg (by omega), h4, rd35 hj]; rfl
theorem refFind_l1 (l : List S30) (b : ByteArray) (i : Nat) (hi : i < l.length) (hl : l[i].f1.length ≤ 70) (m : Nat) :
  ∀ (j : Nat), j + m = l[i].f1.length → Ev (fun k => lunetteref12_Find.l1 k l b (i : Int) (j : Int)) (findE b ((l[i].f1.drop j).find? (hasP b))) := by
 induction m with
 | zero =>
  intro j h
  rw [List.drop_eq_nil_of_le (by omega)]
  refine Ev.step (f := fun _ => some findNo) (fun k => ?_) (Ev.now _)
  simp only [lunetteref12_Find.l1]
  rw [if_pos (by omega), if_pos (by omega), rd30 hi, if_neg (by omega)]
  rfl
 | succ m ih =>
  intro j h
  have hj : j < l[i].f1.length := by omega
  rw [List.drop_eq_getElem_cons hj, List.find?_cons]
  by_cases e : l[i].f1[j].f0.toList = b.toList
  ·rw [show hasP b l[i].f1[j] = true by unfold hasP; rw [e]; exact beq_self_eq_true _]
   refine Ev.step (f := fun _ => some (findE b (some l[i].f1[j]))) (fun k => ?_) (Ev.now _)
   simp only [lunetteref12_Find.l1]
   rw [if_pos (by omega), if_pos (by omega), rd30 hi, if_pos (by omega), if_pos (by omega), rd35 hj, if_pos e]
   rfl
  ·rw [show hasP b l[i].f1[j] = false by unfold hasP; rw [beq_eq_false_iff_ne]; exact e]
   refine Ev.step (fun k => ?_) (ih (j + 1) (by omega))
   simp only [lunetteref12_Find.l1]
   rw [if_pos (by omega), if_pos (by omega), rd30 hi, if_pos (by omega), if_pos (by omega), rd35 hj, if_neg e, wrap_succ hj (by omega)]
theorem refFind_l0 (l : List S30) (hf : fewP l = true) (a b : ByteArray) (m : Nat) :
  ∀ (i : Nat), i + m = l.length → Ev (fun k => lunetteref12_Find.l0 k l a b (i : Int)) (findK b ((l.drop i).find? (kindP a))) := by
 have hl := fewP_len hf
 induction m with
 | zero =>
  intro i h
  rw [List.drop_eq_nil_of_le (by omega)]
  refine Ev.step (f := fun _ => some findNo) (fun k => ?_) (Ev.now _)
  simp only [lunetteref12_Find.l0]
  rw [if_neg (by omega)]
  rfl
 | succ m ih =>
  intro i h
  have hi : i < l.length := by omega
  rw [List.drop_eq_getElem_cons hi, List.find?_cons]
  by_cases e : l[i].f0.toList = a.toList
  ·rw [show kindP a l[i] = true by unfold kindP; rw [e]; exact beq_self_eq_true _]
   refine Ev.step (f := fun k => lunetteref12_Find.l1 k l b (i : Int) ((0 : Nat) : Int)) (fun k => ?_) (refFind_l1 l b i hi (fewP_kind hf (List.getElem_mem hi)).1 _ 0 (Nat.zero_add _))
   simp only [lunetteref12_Find.l0]
   rw [if_pos (by omega), if_pos (by omega), rd30 hi, if_pos e]
   rfl
  ·rw [show kindP a l[i] = false by unfold kindP; rw [beq_eq_false_iff_ne]; exact e]
   refine Ev.step (fun k => ?_) (ih (i + 1) (by omega))
   simp only [lunetteref12_Find.l0]
   rw [if_pos (by omega), if_pos (by omega), rd30 hi, if_neg e, wrap_succ hi (by omega)]
theorem refFind_ev (l : List S30) (hf : fewP l = true) (a b : ByteArray) : Ev (fun k => lunetteref12_Find.f k l a b) (findP l a b) := by
 rw [find_two]
 exact refFind_l0 l hf a b l.length 0 (Nat.zero_add _)
theorem same_l0 (l : List S33) (a b c : ByteArray) (hl : l.length ≤ 1099511627776) (IH : ∀ y ∈ l, Ev (fun k => lunetteref12_same.f k y.f0 y.f1 y.f2 y.f3 y.f0 y.f1 y.f2 y.f3) true) (m : Nat) :
  ∀ (i : Nat), i + m = l.length → Ev (fun k => lunetteref12_same.l0 k (i : Int) a b c l a b c l) true := by
 induction m with
 | zero =>
  intro i h
  refine Ev.step (f := fun _ => some true) (fun k => ?_) (Ev.now _)
  simp only [lunetteref12_same.l0]
  rw [if_neg (by omega)]
 | succ m ih =>
  intro i h
  have hi : i < l.length := by omega
  refine Ev.step (f := fun k => (lunetteref12_same.f k l[i].f0 l[i].f1 l[i].f2 l[i].f3 l[i].f0 l[i].f1 l[i].f2 l[i].f3).bind fun t => if t = true then lunetteref12_same.l0 k ((i + 1 : Nat) : Int) a b c l a b c l else some false) (fun k => ?_) ?_
  ·simp only [lunetteref12_same.l0]
   rw [if_pos (by omega), if_pos (by omega), if_pos (by omega), rd33 hi, wrap_succ hi hl]
  ·exact (IH _ (List.getElem_mem hi)).bind (ih (i + 1) (by omega))
theorem same_ev (x : S33) : smallE x = true → Ev (fun k => lunetteref12_same.f k x.f0 x.f1 x.f2 x.f3 x.f0 x.f1 x.f2 x.f3) true := by
 induction x using S33.ind with
 | h x ih =>
  intro hs
  refine Ev.step (f := fun k => lunetteref12_same.j0 k false x.f0 x.f1 x.f2 x.f3 x.f0 x.f1 x.f2 x.f3) (fun k => ?_) ?_
  ·simp only [lunetteref12_same.f, if_true, bne_self_eq_false]
  ·refine Ev.step (f := fun k => lunetteref12_same.l0 k ((0 : Nat) : Int) x.f0 x.f1 x.f2 x.f3 x.f0 x.f1 x.f2 x.f3) (fun k => by simp only [lunetteref12_same.j0, Bool.false_eq_true, if_false]; rfl) ?_
   exact same_l0 x.f3 _ _ _ (smallE_len hs) (fun y hy => ih y hy (smallE_mem hs hy)) _ 0 (Nat.zero_add _)
theorem find_small (l : List S30) (hf : fewP l = true) (a b : ByteArray) : ∃ x : S33, smallE x = true ∧ (findP l a b).1 = x.f0 ∧ (findP l a b).2.1 = x.f1 ∧ (findP l a b).2.2.1 = x.f2 ∧ (findP l a b).2.2.2.1 = x.f3 := by
 have no : ∃ x : S33, smallE x = true ∧ findNo.1 = x.f0 ∧ findNo.2.1 = x.f1 ∧ findNo.2.2.1 = x.f2 ∧ findNo.2.2.2.1 = x.f3 :=
  ⟨z33, by unfold smallE; rw [allP_eq]; rfl, rfl, rfl, rfl, rfl⟩
 rw [find_two]
 cases hk : l.find? (kindP a) with
 | none => exact no
 | some k =>
  rw [show findK b (some k) = findE b (k.f1.find? (hasP b)) from rfl]
  cases hr : k.f1.find? (hasP b) with
  | none => exact no
  | some r => exact ⟨r.f1, smallL_expr (fewP_small hf) (List.mem_of_find?_eq_some hk) (List.mem_of_find?_eq_some hr), rfl, rfl, rfl, rfl⟩
theorem ruleFinds_ev (l : List S30) (a b : ByteArray) : Ev (fun k => lunettelaw12_RuleFinds.f k l a b) true := by
 unfold lunettelaw12_RuleFinds.f lunettelaw12_awake.f
 simp only [Option.bind_some, if_true]
 have yes : Ev (fun k => lunettelaw12_RuleFinds.j0 k l a b true) true := Ev.step (f := fun _ => some true) (fun k => by simp only [lunettelaw12_RuleFinds.j0, if_true]; rfl) (Ev.now _)
 refine (few_ev l).bind ?_
 cases hf : fewP l with
 | false => simp only [Bool.false_eq_true, if_false]; exact yes
 | true =>
  simp only [if_true]
  by_cases ha : (a.size : Int) > 100
  ·exact Ev.congr (fun k => if_pos ha) yes
  ·refine Ev.congr (fun k => if_neg ha) ?_
   cases hb : decide ((b.size : Int) > 100) with
   | true => exact yes
   | false =>
    obtain ⟨x, hs, e0, e1, e2, e3⟩ := find_small l hf a b
    refine Ev.step (f := fun k => (lunetteref12_Find.f k l a b).bind fun bt214 => (if ((findP l a b).2.2.2.2 == bt214.2.2.2.2) = true then ((lunetteref12_Same.f k (findP l a b).1 (findP l a b).2.1 (findP l a b).2.2.1 (findP l a b).2.2.2.1 bt214.1 bt214.2.1 bt214.2.2.1 bt214.2.2.2.1).bind fun t222 => (if t222 = true then ((rule_Deep.f k (findP l a b).1 (findP l a b).2.1 (findP l a b).2.2.1 (findP l a b).2.2.2.1).bind fun t223 => ((lunetteref12_Deep.f k bt214.1 bt214.2.1 bt214.2.2.1 bt214.2.2.2.1).bind fun t224 => (if t223 = t224 then ((rule_Size.f k (findP l a b).1 (findP l a b).2.1 (findP l a b).2.2.1 (findP l a b).2.2.2.1).bind fun t225 => ((lunetteref12_Size.f k bt214.1 bt214.2.1 bt214.2.2.1 bt214.2.2.2.1).bind fun t226 => (some (t225 == t226)))) else (some false)))) else (some false))) else (some false))) (fun k => ?_) ?_
    ·simp only [lunettelaw12_RuleFinds.j0, Bool.false_eq_true, if_false]
     rw [show rule_Find.f l a b = some (findP l a b) by unfold rule_Find.f; rw [if_pos (fewP_small hf)]]
     rfl
    ·refine (refFind_ev l hf a b).bind ?_
     rw [e0, e1, e2, e3]
     simp only [beq_self_eq_true, if_true]
     refine Ev.bind (a := true) ?_ ?_
     ·unfold lunetteref12_Same.f
      exact (same_ev x hs).bind (Ev.now _)
     simp only [if_true]
     refine (deep_ev _ x (Nat.lt_succ_self _) hs).bind ?_
     refine (refDeep_ev x hs).bind ?_
     simp only [if_true]
     refine (size_ev _ x (Nat.lt_succ_self _) hs).bind ?_
     refine (refSize_ev x hs).bind ?_
     simp only [beq_self_eq_true]
     exact Ev.now _
theorem ruleFinds_walk (w : World) (A : Option Addr) (c : Nat) (l : List S30) (hr : Kd.C k30 w A l.length l) (hc : l.length ≤ c) (a : ByteArray) (ha : a.size ≤ 140737488351232) (b : ByteArray) (hb : b.size ≤ 140737488351232) (hT : Tabs w) :
  Calls Tryz.prog 7 #[.slice A l.length c, .string a, .string b] w fun e w' => e = .returned (.bool true) ∧ Below w.heap.size w w' := by
 obtain ⟨k, h⟩ := (ruleFinds_ev l a b).rounds
 exact lunettelaw12_RuleFinds.callsT k A c l a b true w hr hc hT h rfl
end Go.Proofs.YtjcipbdocbomjaaGreatDoor.K
