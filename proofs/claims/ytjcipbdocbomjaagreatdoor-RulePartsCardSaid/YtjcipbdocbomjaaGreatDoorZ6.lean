/- Texts of this claim's proof, put together: HO HQ HJ HK; conditions: as each states. -/
import Derived.Test.YtjcipbdocbomjaaGreatDoorZ4
import Derived.Tactics
import Derived.Tactics2
import Derived.Defers
import Derived.Laws.Pointers
import Derived.Laws.LoneSync
import Derived.Laws.NewBlocks
import Derived.RegionTactic
import Derived.RegionCalls
import Derived.ChangeAlike
import Derived.LoopN
import Derived.Deep.WholeRow
import Derived.Lib.SliceRun
import Derived.Laws.Cover3
set_option linter.unusedVariables false
set_option linter.unusedSimpArgs false
open Go.RowKit Go.Proofs.YtjcipbdocbomjaaGreatDoorW.PrintWords Go.Proofs.YtjcipbdocbomjaaGreatDoorW.PrintLast Go.Proofs.YtjcipbdocbomjaaGreatDoorW.PrintMore
namespace Go.Proofs.YtjcipbdocbomjaaGreatDoor.K
theorem disable (w : World) : (callFunc 116 #[]).run Tryz.prog w = .ok (.value (.tuple #[])) w := run_call_mark0 Tryz.func116 (by kernel_rfl) (by kernel_rfl) (by kernel_rfl) .disable (by kernel_rfl) w
theorem enable (w : World) : (callFunc 118 #[]).run Tryz.prog w = .ok (.value (.tuple #[])) w := run_call_mark0 Tryz.func118 (by kernel_rfl) (by kernel_rfl) (by kernel_rfl) .enable (by kernel_rfl) w
theorem acquire (a : Addr) (w : World) : (callFunc 119 #[.pointer (some a)]).run Tryz.prog w = .ok (.value (.tuple #[])) w := run_call_marked Tryz.func119 (by kernel_rfl) (by kernel_rfl) (by kernel_rfl) .acquire (by kernel_rfl) a w
theorem releaseMerge (a : Addr) (w : World) : (callFunc 121 #[.pointer (some a)]).run Tryz.prog w = .ok (.value (.tuple #[])) w := run_call_marked Tryz.func121 (by kernel_rfl) (by kernel_rfl) (by kernel_rfl) .releaseMerge (by kernel_rfl) a w
set_option maxRecDepth 100000 in
set_option maxHeartbeats 1600000 in
theorem store_deferred (a : Addr) (x : Value) (u : FrameMode) (w : World) (hc : w.cell? a = some x) (hz : w.frozen? a = false) :
  CallsD Tryz.prog 107 #[.pointer (some a), .bool true] u w fun e u' w' => u' = u ∧ (e = .returned (.tuple #[]) ∧ w' = w.drew.setCell a (.int .u32 1)) := by
 have hc' : w.drew.cell? a = some x := by go_simp
 have hz' : w.drew.frozen? a = false := by go_simp
 have hst := run_call_store (P := Tryz.prog) Tryz.func112 (by kernel_rfl) (by kernel_rfl) (by kernel_rfl) (by kernel_rfl) (k := .u32) (y := 1) hc' hz'
 go_enter_d Tryz.func107, Tryz.ntmps107
 go_wp2
 go_region_calls
 all_goals (go_end0; exact ⟨rfl, rfl⟩)
set_option maxRecDepth 100000 in
set_option maxHeartbeats 1600000 in
theorem unlock_deferred (a : Addr) (u : FrameMode) (w : World) (hc : w.cell? a = some (.int .i32 1)) (hz : w.frozen? a = false) :
  CallsD Tryz.prog 106 #[.pointer (some a)] u w fun e u' w' => u' = u ∧ (e = .returned (.tuple #[]) ∧ w' = w.setCell a (.int .i32 0)) := by
 have hd := disable
 have he := enable
 have hr := releaseMerge
 have hadd := run_call_add (P := Tryz.prog) Tryz.func122 (by kernel_rfl) (by kernel_rfl) (by kernel_rfl) .i32 (by kernel_rfl) (y := -1) (s := 0) hc hz (by simp [go_sem]; rfl)
 have hcv := run_convert_to_unsafe (P := Tryz.prog) (src := 179) (dst := 84) Tryz.underlying179 Tryz.underlying84 (by kernel_rfl) hc
 go_enter_d Tryz.func106, Tryz.ntmps106
 go_wp2
 go_end0
 go_wp2
 go_end0
 exact ⟨rfl, rfl⟩
set_option maxRecDepth 100000 in
set_option maxHeartbeats 1600000 in
theorem lock_free (a : Addr) (w : World) (hc : w.cell? a = some (.int .i32 0)) (hz : w.frozen? a = false) :
  Calls Tryz.prog 105 #[.pointer (some a)] w fun e w' => e = .returned (.tuple #[]) ∧ w' = w.setCell a (.int .i32 1) := by
 have hd := disable
 have he := enable
 have ha := acquire
 have hcas := run_call_cas_hit (P := Tryz.prog) Tryz.func117 (by kernel_rfl) (by kernel_rfl) (by kernel_rfl) .i32 (by kernel_rfl) (y := 1) hc hz
 have hc' : (w.setCell a (.int .i32 1)).cell? a = some (.int .i32 1) := World.cell?_setCell_same w a _ hc
 have hcv := run_convert_to_unsafe (P := Tryz.prog) (src := 179) (dst := 84) Tryz.underlying179 Tryz.underlying84 (by kernel_rfl) hc'
 go_enter Tryz.func105, Tryz.ntmps105
 go_wp2
 (refine bodyPost_ret (results_none rfl _ _ _) rfl ?_)
 go_wp2
 go_end0
 exact ⟨rfl, rfl⟩
def repC (d m : Int) (r o : Value) : Array Value := #[.int .u32 d, .int .i32 m, .int .u32 0, r, o]
set_option maxRecDepth 100000 in
set_option maxHeartbeats 1600000 in
theorem slow_any (b : Nat) (r o : Value) (w : World) (Q R : World → Prop) (hR : ∀ w2, Q w2 → (∃ r2 o2, w2.heap[b]? = some (.cells (repC 0 1 r2 o2) 123 (0, 0))) → R ((w2.drew.setCell ⟨b, 0, none⟩ (.int .u32 1)).setCell ⟨b, 1, none⟩ (.int .i32 0))) (hb : w.heap[b]? = some (.cells (repC 0 0 r o) 123 (0, 0)))
  (hF : ∀ w1, w1 = w.setCell ⟨b, 1, none⟩ (.int .i32 1) → Calls Tryz.prog 88 #[.pointer (some ⟨b, 0, none⟩)] w1 fun e w2 => e = .returned (.tuple #[]) ∧ (∃ r2 o2, w2.heap[b]? = some (.cells (repC 0 1 r2 o2) 123 (0, 0))) ∧ Q w2) :
  Calls Tryz.prog 100 #[.pointer (some ⟨b, 0, none⟩), .func (.func 88) #[.pointer (some ⟨b, 0, none⟩)] #[]] w fun e w' => e = .returned (.tuple #[]) ∧ R w' := by
 have h1 : w.cell? ⟨b, 1, none⟩ = some (.int .i32 0) := blk_cell hb 1
 have z1 := Lib.frozen_of_heap hb 1
 have hbs : (w.setCell ⟨b, 1, none⟩ (.int .i32 1)).heap[b]? = some (.cells (repC 0 1 r o) 123 (0, 0)) := blk_put hb 1 _ rfl
 have hl := run_call_load (P := Tryz.prog) Tryz.func104 (by kernel_rfl) (by kernel_rfl) (by kernel_rfl) .u32 (by kernel_rfl) (w := w.setCell ⟨b, 1, none⟩ (.int .i32 1)) (a := ⟨b, 0, none⟩) (x := 0) (blk_cell hbs 0)
 have hnot : ∀ (x : Bool) (w : World), (Op.unary .not (.bool x)).run Tryz.prog w = .ok (.bool (!x)) w := fun _ _ => rfl
 have hK := hF _ rfl
 clear hF
 go_enter_defers Tryz.func100, Tryz.ntmps100
 go_wp2_with (first | (go_at_call 105; refine (lock_free ⟨b, 1, none⟩ _ h1 z1).mono ?_; rintro e w' ⟨rfl, rfl⟩) | (go_at_call 99; go_in) | (go_at_call 88; refine hK.mono ?_; rintro e w2 ⟨rfl, ⟨r2, o2, hb2⟩, hQ⟩))
 have hq0 : w2.cell? ⟨b, 0, none⟩ = some (.int .u32 0) := blk_cell hb2 0
 have hz0 := Lib.frozen_of_heap hb2 0
 have hb3 : (w2.drew.setCell ⟨b, 0, none⟩ (.int .u32 1)).heap[b]? = some (.cells (repC 1 1 r2 o2) 123 (0, 0)) := blk_put (blk_drew hb2) 0 _ rfl
 have hq1 : (w2.drew.setCell ⟨b, 0, none⟩ (.int .u32 1)).cell? ⟨b, 1, none⟩ = some (.int .i32 1) := blk_cell hb3 1
 have hz1 := Lib.frozen_of_heap hb3 1
 refine leaves_cons (f := 107) (args := #[.pointer (some ⟨b, 0, none⟩), .bool true]) (by simp) (by simp [go_sem]) ?_
 refine (store_deferred ⟨b, 0, none⟩ (.int .u32 0) .returning _ hq0 hz0).mono ?_
 rintro e u' w'' ⟨rfl, rfl, rfl⟩
 refine leaves_cons (f := 106) (args := #[.pointer (some ⟨b, 1, none⟩)]) (by simp [settle]) (by simp [go_sem]) ?_
 refine (unlock_deferred ⟨b, 1, none⟩ _ _ hq1 hz1).mono ?_
 rintro e u' w'' ⟨rfl, rfl, rfl⟩
 have hRR := hR w2 hQ ⟨r2, o2, hb2⟩
 simp [Leaves, settle, results, Tryz.results100]
 exact hRR
set_option maxRecDepth 100000 in
set_option maxHeartbeats 1600000 in
theorem do_first (b : Nat) (r o : Value) (w : World) (Q R : World → Prop) (hR : ∀ w2, Q w2 → (∃ r2 o2, w2.heap[b]? = some (.cells (repC 0 1 r2 o2) 123 (0, 0))) → R ((w2.drew.setCell ⟨b, 0, none⟩ (.int .u32 1)).setCell ⟨b, 1, none⟩ (.int .i32 0))) (hb : w.heap[b]? = some (.cells (repC 0 0 r o) 123 (0, 0)))
  (hF : ∀ w1, w1 = w.setCell ⟨b, 1, none⟩ (.int .i32 1) → Calls Tryz.prog 88 #[.pointer (some ⟨b, 0, none⟩)] w1 fun e w2 => e = .returned (.tuple #[]) ∧ (∃ r2 o2, w2.heap[b]? = some (.cells (repC 0 1 r2 o2) 123 (0, 0))) ∧ Q w2) :
  Calls Tryz.prog 87 #[.pointer (some ⟨b, 0, none⟩), .func (.func 88) #[.pointer (some ⟨b, 0, none⟩)] #[]] w fun e w' => e = .returned (.tuple #[]) ∧ R w' := by
 have hl := run_call_load (P := Tryz.prog) Tryz.func104 (by kernel_rfl) (by kernel_rfl) (by kernel_rfl) .u32 (by kernel_rfl) (w := w) (a := ⟨b, 0, none⟩) (x := 0) (blk_cell hb 0)
 have hnot : ∀ (x : Bool) (w : World), (Op.unary .not (.bool x)).run Tryz.prog w = .ok (.bool (!x)) w := fun _ _ => rfl
 have hS := slow_any b r o w Q R hR hb hF
 clear hF hR
 go_enter Tryz.func87, Tryz.ntmps87
 go_wp2_with (first | (go_at_call 100; refine hS.mono ?_; rintro e w' ⟨rfl, hw⟩) | (go_at_call 99; go_in))
 go_end0
 exact ⟨rfl, hw⟩
end Go.Proofs.YtjcipbdocbomjaaGreatDoor.K
namespace Go.Proofs.YtjcipbdocbomjaaGreatDoor.K
def s40 : ByteArray := ⟨#[40]⟩
def s41 : ByteArray := ⟨#[41]⟩
def n40 : ByteArray := ⟨#[32, 40, 32]⟩
def n41 : ByteArray := ⟨#[32, 41, 32]⟩
theorem own4 {w : World} {B : Nat} {v : Value} {a b c d : Value} (h : w.ownsRow B 9 1 v 4 [a, b, c, d]) : ∃ g cap, v = .slice (some ⟨g, 0, none⟩) 4 cap := by
 rcases h.2 with ⟨_, h2⟩ | ⟨g, cap, cur, hv, _⟩
 ·omega
 ·exact ⟨g, cap, hv⟩
theorem below_bytes (w : World) (e : TypeId) (s : ByteArray) : Below w.heap.size w (Lib.bytesWorld w e s) := by
 refine ⟨?_, ?_, ?_, by rw [Lib.bytesWorld_size]; omega, fun k hk => Lib.bytesWorld_at_old w e s k hk⟩ <;> rfl
theorem cell_of_block {w w1 : World} {k : Nat} (h : w1.heap[k]? = w.heap[k]?) (j : Nat) : w1.cell? ⟨k, j, none⟩ = w.cell? ⟨k, j, none⟩ := by
 unfold World.cell?; simp only [h]
theorem ownN {w : World} {B n : Nat} {v : Value} {xs : List Value} (h : w.ownsRow B 9 1 v n xs) (hn : 0 < n) : ∃ g cap, v = .slice (some ⟨g, 0, none⟩) n cap := by
 rcases h.2 with ⟨_, h2⟩ | ⟨g, cap, cur, hv, _⟩
 ·omega
 ·exact ⟨g, cap, hv⟩
theorem own_cells4 {w : World} {B g cap : Nat} {a b c d : Value} (h : w.ownsRow B 9 1 (.slice (some ⟨g, 0, none⟩) 4 cap) 4 [a, b, c, d]) :
  w.cell? ⟨g, 0, none⟩ = some a ∧ w.cell? ⟨g, 1, none⟩ = some b ∧ w.cell? ⟨g, 2, none⟩ = some c ∧ w.cell? ⟨g, 3, none⟩ = some d := by
 have hc := h.cells (g := g) rfl
 simp only [add_plain] at hc
 exact ⟨hc 0 _ rfl, hc 1 _ rfl, hc 2 _ rfl, hc 3 _ rfl⟩
set_option maxRecDepth 100000 in
set_option maxHeartbeats 1600000 in
theorem newReplacer_any (b : Nat) (w : World) (hb : w.heap[b]? = some (.cells #[.string ⟨#[40]⟩, .string ⟨#[32, 40, 32]⟩, .string ⟨#[41]⟩, .string ⟨#[32, 41, 32]⟩] 9 (0, 0))) :
  Calls Tryz.prog 73 #[.slice (some ⟨b, 0, none⟩) 4 4] w fun e w' => ∃ g v, e = .returned (.pointer (some ⟨g, 0, none⟩)) ∧ w.heap.size ≤ g ∧ w'.heap[g]? = some (.cells (repC 0 0 .nilIface v) 123 (0, 0)) ∧ w'.ownsRow w.heap.size 9 1 v 4 [.string ⟨#[40]⟩, .string ⟨#[32, 40, 32]⟩, .string ⟨#[41]⟩, .string ⟨#[32, 41, 32]⟩] ∧ Below w.heap.size w w' := by
 obtain ⟨i0, hi, hz0, hz1, hz2⟩ := info_parts (show (Tryz.prog.info? 9).map (fun i => (i.zero, i.size, i.bytes)) = some (some (.string ⟨#[]⟩), 1, 16) by kernel_rfl)
 have hnews : ∀ (W : World), W.heap[b]? = w.heap[b]? → ∀ j u, ([.string ⟨#[40]⟩, .string ⟨#[32, 40, 32]⟩, .string ⟨#[41]⟩, .string ⟨#[32, 41, 32]⟩] : List Value)[j]? = some u → W.cell? ((⟨b, 0, none⟩ : Addr).add j) = some u := by
  intro W hW j u h
  rw [add_plain]
  exact (blk_cell (hW.trans hb) j).trans (by simpa using h)
 have hnw := hnews w rfl
 clear hnews hb
 go_enter Tryz.func73, Tryz.ntmps73
 go_wp2_with (at_builtin; refine wpList_append_own _ rfl _ _ 89 rfl w.heap.size 9 i0 (.string ⟨#[]⟩) 1 16 Tryz.underlying89 hi hz0 hz1 hz2 rfl (by decide) (.slice none 0 0) 0 [] rfl (own_nil _ _ _ _) ⟨b, 0, none⟩ 4 4 _ rfl rfl hnw ?h1 (by decide) (by decide) (Nat.le_refl _) ?_)
 case h1 => intro u hu; simp only [List.mem_cons, List.not_mem_nil, or_false] at hu; rcases hu with rfl | rfl | rfl | rfl <;> rfl
 intro v1 w1 hown hg hv
 have hB : Below w.heap.size w w1 := (Below.refl _ _).grown hg (Nat.le_refl _) (fun k hk => by simp [Value.ownBlock] at hk)
 obtain ⟨g1, cap, rfl⟩ := own4 hown
 go_wp2
 go_ret
 exact ⟨w1.heap.size, _, rfl, hB.size, blk_new _ _, hown.alloc _, below_alloc hB _⟩
structure BSR (w : World) (base g : Nat) : Prop where
 out : ∃ (cs : Array Value) (b40 b41 bt c40 c41 ct : Nat), w.heap[g]? = some (.cells cs 161 (0, 0)) ∧ base ≤ g ∧ base ≤ b40 ∧ base ≤ b41 ∧ base ≤ bt ∧
  cs[40]? = some (.slice (some ⟨b40, 0, none⟩) 3 c40) ∧ cs[41]? = some (.slice (some ⟨b41, 0, none⟩) 3 c41) ∧ (∀ i, i < 256 → i ≠ 40 → i ≠ 41 → cs[i]? = some (.slice none 0 0)) ∧ cs[256]? = some (.slice (some ⟨bt, 0, none⟩) 2 ct) ∧
  (∀ j (h : j < 3), w.cell? ⟨b40, j, none⟩ = some (.int .u8 (([32, 40, 32] : List Int)[j]))) ∧ (∀ j (h : j < 3), w.cell? ⟨b41, j, none⟩ = some (.int .u8 (([32, 41, 32] : List Int)[j]))) ∧
  w.cell? ⟨bt, 0, none⟩ = some (.string ⟨#[41]⟩) ∧ w.cell? ⟨bt, 1, none⟩ = some (.string ⟨#[40]⟩)
set_option maxRecDepth 100000 in
set_option maxHeartbeats 4000000 in
theorem build_any (b : Nat) (v : Value) (B : Nat) (w : World) (hb : w.heap[b]? = some (.cells (repC 0 1 .nilIface v) 123 (0, 0))) (hv : w.ownsRow B 9 1 v 4 [.string ⟨#[40]⟩, .string ⟨#[32, 40, 32]⟩, .string ⟨#[41]⟩, .string ⟨#[32, 41, 32]⟩]) :
  Calls Tryz.prog 101 #[.pointer (some ⟨b, 0, none⟩)] w fun e w' => ∃ g, e = .returned (.iface 162 (.pointer (some ⟨g, 0, none⟩))) ∧ BSR w' w.heap.size g ∧ Below w.heap.size w w' := by
 obtain ⟨g1, cap, rfl⟩ := own4 hv
 have h2 : w.cell? ⟨b, 2, none⟩ = some (.int .u32 0) := blk_cell hb 2
 have h4 : w.cell? ⟨b, 4, none⟩ = some (.slice (some ⟨g1, 0, none⟩) 4 cap) := blk_cell hb 4
 have hcs := own_cells4 hv
 obtain ⟨q0, q1, q2, q3⟩ := hcs
 obtain ⟨i0, hi, hz0, hz1, hz2⟩ := info_parts (show (Tryz.prog.info? 9).map (fun i => (i.zero, i.size, i.bytes)) = some (some (.string ⟨#[]⟩), 1, 16) by kernel_rfl)
 have hmk : ∀ W : World, (Instr.makeSlice 89 (.int .i64 0) (.int .i64 2)).run Tryz.prog W = .ok (.slice (some ⟨W.heap.size, 0, none⟩) 0 2) (W.alloc (.cells #[.string ⟨#[]⟩, .string ⟨#[]⟩] 9 (0, 0))) := by
  intro W
  have h := run_make (P := Tryz.prog) W 89 9 i0 (.string ⟨#[]⟩) Tryz.underlying89 hi hz0 .i64 .i64 0 2 (by decide) (by decide) (by rw [hz2]; decide) (by decide)
  rw [hz1] at h
  have hmc : madeCells (Value.string ⟨#[]⟩).cells (Int.toNat 2 * 1) = #[.string ⟨#[]⟩, .string ⟨#[]⟩] := by kernel_rfl
  rw [hmc] at h
  exact h
 obtain ⟨C0, hC0⟩ : ∃ C0 : Array Value, (Tryz.zeroCells161.toList.set 256 (.slice (some ⟨w.heap.size, 0, none⟩) 0 2)).toArray = C0 := ⟨_, rfl⟩
 have hst : (storeCells ⟨w.heap.size + 1, 0, none⟩ (Tryz.zeroCells161.toList.set 256 (.slice (some ⟨w.heap.size, 0, none⟩) 0 2)) 0).run Tryz.prog ((w.alloc (.cells #[.string ⟨#[]⟩, .string ⟨#[]⟩] 9 (0, 0))).alloc (.cells Tryz.zeroCells161 161 (0, 0))) = .ok () ((w.alloc (.cells #[.string ⟨#[]⟩, .string ⟨#[]⟩] 9 (0, 0))).alloc (.cells C0 161 (0, 0))) := by
  have h := run_storeCells_new (P := Tryz.prog) (w.alloc (.cells #[.string ⟨#[]⟩, .string ⟨#[]⟩] 9 (0, 0))) 161 Tryz.zeroCells161 C0 (by rw [← hC0]; rfl) (by rw [← hC0]; rfl) (by rw [← hC0, List.all_toArray]; rfl)
  rw [alloc_size] at h
  rw [← hC0] at h ⊢
  exact h
 clear hv hb
 go_enter Tryz.func101, Tryz.ntmps101
 go_wp2_with fail
 refine wp_loop_rounds 3 ?_
 rw [rounds_succ]
 go_wp2_with fail
 rw [rounds_succ]
 go_wp2_with fail
 rw [rounds_succ]
 go_upto_region 27 with fail
 have hW0 := below_two w (.cells #[.string ⟨#[]⟩, .string ⟨#[]⟩] 9 (0, 0)) (.cells C0 161 (0, 0))
 have hgC := blk_second w (.cells #[.string ⟨#[]⟩, .string ⟨#[]⟩] 9 (0, 0)) (.cells C0 161 (0, 0))
 have hgT := blk_first w (.cells #[.string ⟨#[]⟩, .string ⟨#[]⟩] 9 (0, 0)) (.cells C0 161 (0, 0))
 have hown0 := (World.ownsRow_made (base := w.heap.size) (e := 9) (size := 1) w #[.string ⟨#[]⟩, .string ⟨#[]⟩] 2 (Nat.le_refl _) (by decide) rfl).alloc (.cells C0 161 (0, 0))
 generalize ((w.alloc (.cells #[.string ⟨#[]⟩, .string ⟨#[]⟩] 9 (0, 0))).alloc (.cells C0 161 (0, 0))) = W at hW0 hgC hgT hown0 ⊢
 clear hst hmk
 have hgC0 := hgC
 have hB0 := hW0
 have q2_0 := cell_keeps q2 hW0
 have q3_0 := cell_keeps q3 hW0
 have hZ : Tryz.zeroCells161 = Array.replicate 257 (.slice none 0 0) := by kernel_rfl
 have hCo_0 : ∀ i, i < 256 → i ≠ 40 → i ≠ 41 → C0[i]? = some (.slice none 0 0) := fun i h1 _ _ => by
  rw [← hC0, List.getElem?_toArray, List.getElem?_set_ne (by omega), hZ, Array.getElem?_toList, Array.getElem?_replicate, if_pos (by omega)]
 have hS0 : 256 < C0.size := by rw [← hC0, List.size_toArray, List.length_set, hZ]; simp
 have hC256_0 : C0[256]? = some (.slice (some ⟨w.heap.size, 0, none⟩) 0 2) := by rw [← hC0]; rfl
 have hCp41_0 : C0[41]? = some (.slice none 0 0) := by rw [← hC0]; rfl
 have hCp40_0 : C0[40]? = some (.slice none 0 0) := by rw [← hC0]; rfl
 have c41 : W.cell? ⟨w.heap.size + 1, 41, none⟩ = some (.slice none 0 0) := (blk_cell hgC 41).trans (by rw [← hC0]; rfl)
 have c256 : W.cell? ⟨w.heap.size + 1, 256, none⟩ = some (.slice (some ⟨w.heap.size, 0, none⟩) 0 2) := (blk_cell hgC 256).trans (by rw [← hC0]; rfl)
 have qT : ∀ (w : World) (a : Option Addr) (n c n' c' : Nat), (binOp .eql 51 (.slice a n c) (.slice none n' c')).run Tryz.prog w = .ok (.bool a.isNone) w := fun w a n c n' c' => Lib.run_eql_slice_nil w _ _ a n c n' c' Tryz.underlying51
 have e40 : ((⟨#[40]⟩ : ByteArray)[0]'(by decide)).toNat = 40 := rfl
 have e41 : ((⟨#[41]⟩ : ByteArray)[0]'(by decide)).toNat = 41 := rfl
 go_wp2_with fail
 refine wp_loop_rounds 3 ?_
 have kb : ∀ (s : ByteArray) (W : World), (convert 9 51 (.string s)).run Tryz.prog W = .ok (.slice (some ⟨W.heap.size, 0, none⟩) s.size (grownCap W s.size 0 5)) (Lib.bytesWorld W 5 s) := fun s W => print_bytes (P := Tryz.prog) 9 51 5 Tryz.underlying9 Tryz.underlying51 Tryz.underlying5 s W
 rw [rounds_succ]
 have kS1 : (convert 51 9 (.slice (some ⟨W.heap.size, 0, none⟩) 1 1)).run Tryz.prog (W.alloc (.cells #[.int .u8 41] 5 (0, 0))) = .ok (.string ⟨#[41]⟩) (W.alloc (.cells #[.int .u8 41] 5 (0, 0))) :=
  run_convert_bytes_arg _ 51 5 Tryz.underlying51 Tryz.underlying5 W.heap.size 0 1 1 [41] rfl (fun i h => by
   obtain rfl : i = 0 := by omega
   exact blk_cell (blk_new W _) 0) 9 Tryz.underlying9
 go_wp2_with (at_builtin; refine wpList_append_own _ rfl _ _ 89 rfl w.heap.size 9 i0 (.string ⟨#[]⟩) 1 16 Tryz.underlying89 hi hz0 hz1 hz2 rfl (by decide) (.slice (some ⟨w.heap.size, 0, none⟩) 0 2) 0 [] rfl ((hown0.alloc _).alloc _) ⟨W.heap.size + 1, 0, none⟩ 1 1 [.string ⟨#[41]⟩] rfl rfl ?hn ?h1 (by decide) (by decide) ?hb ?_)
 case hn =>
  intro j u h
  rw [add_plain]
  have hj : j = 0 := by
   rcases j with _ | j
   ·rfl
   ·simp at h
  subst hj
  exact (blk_cell (blk_second W _ _) 0).trans (by simpa using h)
 case h1 => intro u hu; simp only [List.mem_cons, List.not_mem_nil, or_false] at hu; subst hu; rfl
 case hb => rw [alloc_size, alloc_size]; have := hB0.size; omega
 intro v1 W1a hownA1 hgr1 _
 obtain ⟨gt1, ct1, rfl⟩ := ownN hownA1 (by decide)
 have hA1 := blk_grown (blk_alloc (blk_alloc hgC0 _) _) hgr1 (own_ne hown0 hgC0 (by decide))
 have hBA1 : Below w.heap.size w W1a := (below_alloc (below_alloc hB0 _) _).grown hgr1 (by rw [alloc_size, alloc_size]; have := hB0.size; omega) (fun k hk => (hown0.lt k hk).1)
 have hc1 : W1a.cell? ⟨w.heap.size + 1, 256, none⟩ = some (.slice (some ⟨w.heap.size, 0, none⟩) 0 2) := (blk_cell hA1 256).trans hC256_0
 have hz1 := Lib.frozen_of_heap hA1 256
 have hkA1 : ∀ k, k < W.heap.size → some k ≠ ((.slice (some ⟨w.heap.size, 0, none⟩) 0 2) : Value).ownBlock → W1a.heap[k]? = W.heap[k]? := fun k hk hne => (hgr1.block k (by rw [alloc_size, alloc_size]; omega) hne).trans (by rw [Below.heap_alloc _ _ k (by rw [alloc_size]; omega), Below.heap_alloc _ _ k hk])
 go_upto_region 34 with fail
 have hgB1 := blk_set hA1 256 (.slice (some ⟨gt1, 0, none⟩) 1 ct1)
 have hBB1 : Below w.heap.size w (W1a.setCell ⟨w.heap.size + 1, 256, none⟩ (.slice (some ⟨gt1, 0, none⟩) 1 ct1)) := hBA1.setCell (p := ⟨w.heap.size + 1, 256, none⟩) (by simp) _
 have hownB1 := own_setCell hownA1 (p := ⟨w.heap.size + 1, 256, none⟩) (own_ne hownA1 hA1 (by decide)) (.slice (some ⟨gt1, 0, none⟩) 1 ct1)
 have hkB1 : ∀ k, k < W.heap.size → k ≠ w.heap.size + 1 → some k ≠ ((.slice (some ⟨w.heap.size, 0, none⟩) 0 2) : Value).ownBlock → (W1a.setCell ⟨w.heap.size + 1, 256, none⟩ (.slice (some ⟨gt1, 0, none⟩) 1 ct1)).heap[k]? = W.heap[k]? := fun k hk hne hne2 => (Below.heap_setCell _ ⟨w.heap.size + 1, 256, none⟩ _ k hne).trans (hkA1 k hk hne2)
 have hsz1 : W.heap.size ≤ (W1a.setCell ⟨w.heap.size + 1, 256, none⟩ (.slice (some ⟨gt1, 0, none⟩) 1 ct1)).heap.size := by
  have := hgr1.size; rw [alloc_size, alloc_size] at this; simp only [World.setCell, Array.size_modify]; omega
 have e256_1 : (C0.setIfInBounds 256 (.slice (some ⟨gt1, 0, none⟩) 1 ct1))[41]? = some (.slice none 0 0) := by rw [Array.getElem?_setIfInBounds_ne (by decide)]; exact hCp41_0
 generalize W1a.setCell ⟨w.heap.size + 1, 256, none⟩ (.slice (some ⟨gt1, 0, none⟩) 1 ct1) = W1b at hgB1 hBB1 hownB1 hkB1 hsz1 ⊢
 have hbo1 := Lib.bytesWorld_at_old W1b 5 ⟨#[32, 41, 32]⟩
 have hgD1 := (hbo1 (w.heap.size + 1) (blk_lt hgB1)).trans hgB1
 have hcD1 : (Lib.bytesWorld W1b 5 ⟨#[32, 41, 32]⟩).cell? ⟨w.heap.size + 1, 41, none⟩ = some (.slice none 0 0) := (blk_cell hgD1 41).trans e256_1
 have hzD1 := Lib.frozen_of_heap hgD1 41
 have hgs1 : (Lib.bytesWorld W1b 5 ⟨#[32, 41, 32]⟩).heap.size = W1b.heap.size + 1 := Lib.bytesWorld_size W1b 5 _
 have hcell1 : ∀ j (h : j < 3), (Lib.bytesWorld W1b 5 ⟨#[32, 41, 32]⟩).cell? ⟨W1b.heap.size, j, none⟩ = some (.int .u8 (([32, 41, 32] : List Int)[j])) := fun j h => (Lib.bytesWorld_cell W1b 5 ⟨#[32, 41, 32]⟩ j h).trans (by rcases j with _ | _ | _ | j <;> first | rfl | omega)
 have hBD1 : Below W1b.heap.size W1b (Lib.bytesWorld W1b 5 ⟨#[32, 41, 32]⟩) := below_bytes W1b 5 _
 have hownD1 := own_move hownB1 (fun k hk => hbo1 k (hownB1.lt k hk).2)
 have hlt1 := blk_lt hgB1
 go_upto_region 29 with fail
 have hgC1 := blk_set hgD1 41 (.slice (some ⟨W1b.heap.size, 0, none⟩) 3 (grownCap W1b 3 0 5))
 have hown1 := own_setCell hownD1 (p := ⟨w.heap.size + 1, 41, none⟩) (own_ne hownD1 hgD1 (by decide)) (.slice (some ⟨W1b.heap.size, 0, none⟩) 3 (grownCap W1b 3 0 5))
 have hB1 : Below w.heap.size w ((Lib.bytesWorld W1b 5 ⟨#[32, 41, 32]⟩).setCell ⟨w.heap.size + 1, 41, none⟩ (.slice (some ⟨W1b.heap.size, 0, none⟩) 3 (grownCap W1b 3 0 5))) := (hBB1.trans (hBD1.mono hBB1.size)).setCell (p := ⟨w.heap.size + 1, 41, none⟩) (by simp) _
 have hv1 : ∀ j (h : j < 3), ((Lib.bytesWorld W1b 5 ⟨#[32, 41, 32]⟩).setCell ⟨w.heap.size + 1, 41, none⟩ (.slice (some ⟨W1b.heap.size, 0, none⟩) 3 (grownCap W1b 3 0 5))).cell? ⟨W1b.heap.size, j, none⟩ = some (.int .u8 (([32, 41, 32] : List Int)[j])) := fun j h => (World.cell?_setCell_other _ ⟨w.heap.size + 1, 41, none⟩ ⟨W1b.heap.size, j, none⟩ _ (by intro e; injection e with e; omega)).trans (hcell1 j h)
 have hkC1 : ∀ k, k < W.heap.size → k ≠ w.heap.size + 1 → some k ≠ ((.slice (some ⟨w.heap.size, 0, none⟩) 0 2) : Value).ownBlock → ((Lib.bytesWorld W1b 5 ⟨#[32, 41, 32]⟩).setCell ⟨w.heap.size + 1, 41, none⟩ (.slice (some ⟨W1b.heap.size, 0, none⟩) 3 (grownCap W1b 3 0 5))).heap[k]? = W.heap[k]? := fun k hk h1 h2 => (Below.heap_setCell _ ⟨w.heap.size + 1, 41, none⟩ _ k h1).trans ((hbo1 k (by omega)).trans (hkB1 k hk h1 h2))
 have hszC1 : ((Lib.bytesWorld W1b 5 ⟨#[32, 41, 32]⟩).setCell ⟨w.heap.size + 1, 41, none⟩ (.slice (some ⟨W1b.heap.size, 0, none⟩) 3 (grownCap W1b 3 0 5))).heap.size = W1b.heap.size + 1 := by simp only [World.setCell, Array.size_modify]; exact hgs1
 generalize (Lib.bytesWorld W1b 5 ⟨#[32, 41, 32]⟩).setCell ⟨w.heap.size + 1, 41, none⟩ (.slice (some ⟨W1b.heap.size, 0, none⟩) 3 (grownCap W1b 3 0 5)) = W1 at hgC1 hown1 hB1 hv1 hkC1 hszC1 ⊢
 generalize hcap1 : grownCap W1b 3 0 5 = cap1 at hgC1 hown1
 have hbw1 : w.heap.size + 1 < W1b.heap.size := by omega
 have hgb1 : gt1 < W1b.heap.size := (hownB1.lt gt1 rfl).2
 generalize hbb1 : W1b.heap.size = bb1 at hgC1 hown1 hv1 hszC1 hbw1 hgb1
 have hC256_1 : (((C0.setIfInBounds 256 (.slice (some ⟨gt1, 0, none⟩) 1 ct1))).setIfInBounds 41 (.slice (some ⟨bb1, 0, none⟩) 3 cap1))[256]? = some (.slice (some ⟨gt1, 0, none⟩) 1 ct1) := by
  rw [Array.getElem?_setIfInBounds_ne (by decide), Array.getElem?_setIfInBounds_self_of_lt hS0]
 have hC41_1 : (((C0.setIfInBounds 256 (.slice (some ⟨gt1, 0, none⟩) 1 ct1))).setIfInBounds 41 (.slice (some ⟨bb1, 0, none⟩) 3 cap1))[41]? = some (.slice (some ⟨bb1, 0, none⟩) 3 cap1) := by
  rw [Array.getElem?_setIfInBounds_self_of_lt (by rw [Array.size_setIfInBounds]; omega)]
 have hCo_1 : ∀ i, i < 256 → i ≠ 40 → i ≠ 41 → (((C0.setIfInBounds 256 (.slice (some ⟨gt1, 0, none⟩) 1 ct1))).setIfInBounds 41 (.slice (some ⟨bb1, 0, none⟩) 3 cap1))[i]? = some (.slice none 0 0) := fun i h1 h2 h3 => by
  rw [Array.getElem?_setIfInBounds_ne (by omega), Array.getElem?_setIfInBounds_ne (by omega)]; exact hCo_0 i h1 h2 h3
 have hC40_1 : (((C0.setIfInBounds 256 (.slice (some ⟨gt1, 0, none⟩) 1 ct1))).setIfInBounds 41 (.slice (some ⟨bb1, 0, none⟩) 3 cap1))[40]? = some (.slice none 0 0) := by
  rw [Array.getElem?_setIfInBounds_ne (by decide), Array.getElem?_setIfInBounds_ne (by decide)]; exact hCp40_0
 have hS1 : 256 < (((C0.setIfInBounds 256 (.slice (some ⟨gt1, 0, none⟩) 1 ct1))).setIfInBounds 41 (.slice (some ⟨bb1, 0, none⟩) 3 cap1)).size := by rw [Array.size_setIfInBounds, Array.size_setIfInBounds]; exact hS0
 generalize ((C0.setIfInBounds 256 (.slice (some ⟨gt1, 0, none⟩) 1 ct1))).setIfInBounds 41 (.slice (some ⟨bb1, 0, none⟩) 3 cap1) = C1 at hgC1 hC256_1 hC41_1 hCo_1 hC40_1 hS1
 have hszL1 : bb1 < W1.heap.size := by omega
 clear hszC1
 have hown1 : W1.ownsRow w.heap.size 9 1 (.slice (some ⟨gt1, 0, none⟩) 1 ct1) 1 [.string ⟨#[41]⟩] := hown1
 have q0_1 := cell_keeps q0 hB1
 have q1_1 := cell_keeps q1 hB1
 have d256_1 : W1.cell? ⟨w.heap.size + 1, 256, none⟩ = some (.slice (some ⟨gt1, 0, none⟩) 1 ct1) := (blk_cell hgC1 256).trans hC256_1
 have d40_1 : W1.cell? ⟨w.heap.size + 1, 40, none⟩ = some (.slice none 0 0) := (blk_cell hgC1 40).trans hC40_1
 clear kS1 hA1 hBA1 hc1 hz1 hkA1 hgB1 hBB1 hownB1 hsz1 e256_1 hbo1 hgD1 hcD1 hzD1 hgs1 hcell1 hBD1 hownD1 hlt1 hcap1
 go_wp2_with fail
 have hCp40_1 := hC40_1
 rw [rounds_succ]
 have kS2 : (convert 51 9 (.slice (some ⟨W1.heap.size, 0, none⟩) 1 1)).run Tryz.prog (W1.alloc (.cells #[.int .u8 40] 5 (0, 0))) = .ok (.string ⟨#[40]⟩) (W1.alloc (.cells #[.int .u8 40] 5 (0, 0))) :=
  run_convert_bytes_arg _ 51 5 Tryz.underlying51 Tryz.underlying5 W1.heap.size 0 1 1 [40] rfl (fun i h => by
   obtain rfl : i = 0 := by omega
   exact blk_cell (blk_new W1 _) 0) 9 Tryz.underlying9
 go_wp2_with (at_builtin; refine wpList_append_own _ rfl _ _ 89 rfl w.heap.size 9 i0 (.string ⟨#[]⟩) 1 16 Tryz.underlying89 hi hz0 hz1 hz2 rfl (by decide) (.slice (some ⟨gt1, 0, none⟩) 1 ct1) 1 [.string ⟨#[41]⟩] rfl ((hown1.alloc _).alloc _) ⟨W1.heap.size + 1, 0, none⟩ 1 1 [.string ⟨#[40]⟩] rfl rfl ?hn ?h1 (by decide) (by decide) ?hb ?_)
 case hn =>
  intro j u h
  rw [add_plain]
  have hj : j = 0 := by
   rcases j with _ | j
   ·rfl
   ·simp at h
  subst hj
  exact (blk_cell (blk_second W1 _ _) 0).trans (by simpa using h)
 case h1 => intro u hu; simp only [List.mem_cons, List.not_mem_nil, or_false] at hu; subst hu; rfl
 case hb => rw [alloc_size, alloc_size]; have := hB1.size; omega
 intro v2 W2a hownA2 hgr2 _
 obtain ⟨gt2, ct2, rfl⟩ := ownN hownA2 (by decide)
 have hA2 := blk_grown (blk_alloc (blk_alloc hgC1 _) _) hgr2 (own_ne hown1 hgC1 (by decide))
 have hBA2 : Below w.heap.size w W2a := (below_alloc (below_alloc hB1 _) _).grown hgr2 (by rw [alloc_size, alloc_size]; have := hB1.size; omega) (fun k hk => (hown1.lt k hk).1)
 have hc2 : W2a.cell? ⟨w.heap.size + 1, 256, none⟩ = some (.slice (some ⟨gt1, 0, none⟩) 1 ct1) := (blk_cell hA2 256).trans hC256_1
 have hz2 := Lib.frozen_of_heap hA2 256
 have hkA2 : ∀ k, k < W1.heap.size → some k ≠ ((.slice (some ⟨gt1, 0, none⟩) 1 ct1) : Value).ownBlock → W2a.heap[k]? = W1.heap[k]? := fun k hk hne => (hgr2.block k (by rw [alloc_size, alloc_size]; omega) hne).trans (by rw [Below.heap_alloc _ _ k (by rw [alloc_size]; omega), Below.heap_alloc _ _ k hk])
 go_upto_region 34 with fail
 have hgB2 := blk_set hA2 256 (.slice (some ⟨gt2, 0, none⟩) 2 ct2)
 have hBB2 : Below w.heap.size w (W2a.setCell ⟨w.heap.size + 1, 256, none⟩ (.slice (some ⟨gt2, 0, none⟩) 2 ct2)) := hBA2.setCell (p := ⟨w.heap.size + 1, 256, none⟩) (by simp) _
 have hownB2 := own_setCell hownA2 (p := ⟨w.heap.size + 1, 256, none⟩) (own_ne hownA2 hA2 (by decide)) (.slice (some ⟨gt2, 0, none⟩) 2 ct2)
 have hkB2 : ∀ k, k < W1.heap.size → k ≠ w.heap.size + 1 → some k ≠ ((.slice (some ⟨gt1, 0, none⟩) 1 ct1) : Value).ownBlock → (W2a.setCell ⟨w.heap.size + 1, 256, none⟩ (.slice (some ⟨gt2, 0, none⟩) 2 ct2)).heap[k]? = W1.heap[k]? := fun k hk hne hne2 => (Below.heap_setCell _ ⟨w.heap.size + 1, 256, none⟩ _ k hne).trans (hkA2 k hk hne2)
 have hsz2 : W1.heap.size ≤ (W2a.setCell ⟨w.heap.size + 1, 256, none⟩ (.slice (some ⟨gt2, 0, none⟩) 2 ct2)).heap.size := by
  have := hgr2.size; rw [alloc_size, alloc_size] at this; simp only [World.setCell, Array.size_modify]; omega
 have e256_2 : (C1.setIfInBounds 256 (.slice (some ⟨gt2, 0, none⟩) 2 ct2))[40]? = some (.slice none 0 0) := by rw [Array.getElem?_setIfInBounds_ne (by decide)]; exact hCp40_1
 generalize W2a.setCell ⟨w.heap.size + 1, 256, none⟩ (.slice (some ⟨gt2, 0, none⟩) 2 ct2) = W2b at hgB2 hBB2 hownB2 hkB2 hsz2 ⊢
 have hbo2 := Lib.bytesWorld_at_old W2b 5 ⟨#[32, 40, 32]⟩
 have hgD2 := (hbo2 (w.heap.size + 1) (blk_lt hgB2)).trans hgB2
 have hcD2 : (Lib.bytesWorld W2b 5 ⟨#[32, 40, 32]⟩).cell? ⟨w.heap.size + 1, 40, none⟩ = some (.slice none 0 0) := (blk_cell hgD2 40).trans e256_2
 have hzD2 := Lib.frozen_of_heap hgD2 40
 have hgs2 : (Lib.bytesWorld W2b 5 ⟨#[32, 40, 32]⟩).heap.size = W2b.heap.size + 1 := Lib.bytesWorld_size W2b 5 _
 have hcell2 : ∀ j (h : j < 3), (Lib.bytesWorld W2b 5 ⟨#[32, 40, 32]⟩).cell? ⟨W2b.heap.size, j, none⟩ = some (.int .u8 (([32, 40, 32] : List Int)[j])) := fun j h => (Lib.bytesWorld_cell W2b 5 ⟨#[32, 40, 32]⟩ j h).trans (by rcases j with _ | _ | _ | j <;> first | rfl | omega)
 have hBD2 : Below W2b.heap.size W2b (Lib.bytesWorld W2b 5 ⟨#[32, 40, 32]⟩) := below_bytes W2b 5 _
 have hownD2 := own_move hownB2 (fun k hk => hbo2 k (hownB2.lt k hk).2)
 have hlt2 := blk_lt hgB2
 go_upto_region 29 with fail
 have hgC2 := blk_set hgD2 40 (.slice (some ⟨W2b.heap.size, 0, none⟩) 3 (grownCap W2b 3 0 5))
 have hown2 := own_setCell hownD2 (p := ⟨w.heap.size + 1, 40, none⟩) (own_ne hownD2 hgD2 (by decide)) (.slice (some ⟨W2b.heap.size, 0, none⟩) 3 (grownCap W2b 3 0 5))
 have hB2 : Below w.heap.size w ((Lib.bytesWorld W2b 5 ⟨#[32, 40, 32]⟩).setCell ⟨w.heap.size + 1, 40, none⟩ (.slice (some ⟨W2b.heap.size, 0, none⟩) 3 (grownCap W2b 3 0 5))) := (hBB2.trans (hBD2.mono hBB2.size)).setCell (p := ⟨w.heap.size + 1, 40, none⟩) (by simp) _
 have hv2 : ∀ j (h : j < 3), ((Lib.bytesWorld W2b 5 ⟨#[32, 40, 32]⟩).setCell ⟨w.heap.size + 1, 40, none⟩ (.slice (some ⟨W2b.heap.size, 0, none⟩) 3 (grownCap W2b 3 0 5))).cell? ⟨W2b.heap.size, j, none⟩ = some (.int .u8 (([32, 40, 32] : List Int)[j])) := fun j h => (World.cell?_setCell_other _ ⟨w.heap.size + 1, 40, none⟩ ⟨W2b.heap.size, j, none⟩ _ (by intro e; injection e with e; omega)).trans (hcell2 j h)
 have hkC2 : ∀ k, k < W1.heap.size → k ≠ w.heap.size + 1 → some k ≠ ((.slice (some ⟨gt1, 0, none⟩) 1 ct1) : Value).ownBlock → ((Lib.bytesWorld W2b 5 ⟨#[32, 40, 32]⟩).setCell ⟨w.heap.size + 1, 40, none⟩ (.slice (some ⟨W2b.heap.size, 0, none⟩) 3 (grownCap W2b 3 0 5))).heap[k]? = W1.heap[k]? := fun k hk h1 h2 => (Below.heap_setCell _ ⟨w.heap.size + 1, 40, none⟩ _ k h1).trans ((hbo2 k (by omega)).trans (hkB2 k hk h1 h2))
 have hszC2 : ((Lib.bytesWorld W2b 5 ⟨#[32, 40, 32]⟩).setCell ⟨w.heap.size + 1, 40, none⟩ (.slice (some ⟨W2b.heap.size, 0, none⟩) 3 (grownCap W2b 3 0 5))).heap.size = W2b.heap.size + 1 := by simp only [World.setCell, Array.size_modify]; exact hgs2
 generalize (Lib.bytesWorld W2b 5 ⟨#[32, 40, 32]⟩).setCell ⟨w.heap.size + 1, 40, none⟩ (.slice (some ⟨W2b.heap.size, 0, none⟩) 3 (grownCap W2b 3 0 5)) = W2 at hgC2 hown2 hB2 hv2 hkC2 hszC2 ⊢
 generalize hcap2 : grownCap W2b 3 0 5 = cap2 at hgC2 hown2
 have hbw2 : w.heap.size + 1 < W2b.heap.size := by omega
 have hgb2 : gt2 < W2b.heap.size := (hownB2.lt gt2 rfl).2
 generalize hbb2 : W2b.heap.size = bb2 at hgC2 hown2 hv2 hszC2 hbw2 hgb2
 have hC256_2 : (((C1.setIfInBounds 256 (.slice (some ⟨gt2, 0, none⟩) 2 ct2))).setIfInBounds 40 (.slice (some ⟨bb2, 0, none⟩) 3 cap2))[256]? = some (.slice (some ⟨gt2, 0, none⟩) 2 ct2) := by
  rw [Array.getElem?_setIfInBounds_ne (by decide), Array.getElem?_setIfInBounds_self_of_lt hS1]
 have hC41_2 : (((C1.setIfInBounds 256 (.slice (some ⟨gt2, 0, none⟩) 2 ct2))).setIfInBounds 40 (.slice (some ⟨bb2, 0, none⟩) 3 cap2))[41]? = some (.slice (some ⟨bb1, 0, none⟩) 3 cap1) := by
  rw [Array.getElem?_setIfInBounds_ne (by decide), Array.getElem?_setIfInBounds_ne (by decide)]; exact hC41_1
 have hCo_2 : ∀ i, i < 256 → i ≠ 40 → i ≠ 41 → (((C1.setIfInBounds 256 (.slice (some ⟨gt2, 0, none⟩) 2 ct2))).setIfInBounds 40 (.slice (some ⟨bb2, 0, none⟩) 3 cap2))[i]? = some (.slice none 0 0) := fun i h1 h2 h3 => by
  rw [Array.getElem?_setIfInBounds_ne (by omega), Array.getElem?_setIfInBounds_ne (by omega)]; exact hCo_1 i h1 h2 h3
 have hC40_2 : (((C1.setIfInBounds 256 (.slice (some ⟨gt2, 0, none⟩) 2 ct2))).setIfInBounds 40 (.slice (some ⟨bb2, 0, none⟩) 3 cap2))[40]? = some (.slice (some ⟨bb2, 0, none⟩) 3 cap2) := by
  rw [Array.getElem?_setIfInBounds_self_of_lt (by rw [Array.size_setIfInBounds]; omega)]
 have hS2 : 256 < (((C1.setIfInBounds 256 (.slice (some ⟨gt2, 0, none⟩) 2 ct2))).setIfInBounds 40 (.slice (some ⟨bb2, 0, none⟩) 3 cap2)).size := by rw [Array.size_setIfInBounds, Array.size_setIfInBounds]; exact hS1
 generalize ((C1.setIfInBounds 256 (.slice (some ⟨gt2, 0, none⟩) 2 ct2))).setIfInBounds 40 (.slice (some ⟨bb2, 0, none⟩) 3 cap2) = C2 at hgC2 hC256_2 hC41_2 hCo_2 hC40_2 hS2
 have hszL2 : bb2 < W2.heap.size := by omega
 clear hszC2
 have hown2 : W2.ownsRow w.heap.size 9 1 (.slice (some ⟨gt2, 0, none⟩) 2 ct2) 2 [.string ⟨#[41]⟩, .string ⟨#[40]⟩] := hown2
 have q0_2 := cell_keeps q0 hB2
 have q1_2 := cell_keeps q1 hB2
 have d256_2 : W2.cell? ⟨w.heap.size + 1, 256, none⟩ = some (.slice (some ⟨gt2, 0, none⟩) 2 ct2) := (blk_cell hgC2 256).trans hC256_2
 have d40_2 : W2.cell? ⟨w.heap.size + 1, 40, none⟩ = some (.slice (some ⟨bb2, 0, none⟩) 3 cap2) := (blk_cell hgC2 40).trans hC40_2
 clear kS2 hA2 hBA2 hc2 hz2 hkA2 hgB2 hBB2 hownB2 hsz2 e256_2 hbo2 hgD2 hcD2 hzD2 hgs2 hcell2 hBD2 hownD2 hlt2 hcap2
 go_wp2_with fail
 rw [rounds_succ]
 go_wp2
 go_ret
 have hv1' : ∀ j (h : j < 3), W2.cell? ⟨bb1, j, none⟩ = some (.int .u8 (([32, 41, 32] : List Int)[j])) := fun j h => (cell_of_block (hkC2 bb1 (by omega) (by omega) (by intro e; injection e with e; have e2 : bb1 = gt1 := e; omega)) j).trans (hv1 j h)
 have hct := hown2.cells (g := gt2) rfl
 simp only [add_plain] at hct
 exact ⟨w.heap.size + 1, rfl, ⟨C2, bb2, bb1, gt2, cap2, cap1, ct2, hgC2, by omega, by omega, by omega, (hown2.lt gt2 rfl).1, hC40_2, hC41_2, hCo_2, hC256_2, hv2, hv1', hct 0 _ rfl, hct 1 _ rfl⟩, hB2⟩
end Go.Proofs.YtjcipbdocbomjaaGreatDoor.K
namespace Go.Proofs.YtjcipbdocbomjaaGreatDoor.K
def rep1 (c : UInt8) : List UInt8 := if c = 40 then [32, 40, 32] else if c = 41 then [32, 41, 32] else [c]
def replP (l : List UInt8) : List UInt8 := l.flatMap rep1
def isPar (c : UInt8) : Bool := decide (c = 40) || decide (c = 41)
def parN (l : List UInt8) : Nat := l.countP isPar
theorem rep1_len (c : UInt8) : (rep1 c).length = 1 + 2 * (if isPar c then 1 else 0) := by
 unfold rep1 isPar
 by_cases h : c = 40
 ·subst h; rfl
 ·by_cases h2 : c = 41
  ·subst h2; rfl
  ·simp [h, h2]
theorem replP_len (l : List UInt8) : (replP l).length = l.length + 2 * parN l := by
 induction l with
 | nil => rfl
 | cons c l ih =>
  rw [show replP (c :: l) = rep1 c ++ replP l from rfl, List.length_append, ih, rep1_len, List.length_cons]
  unfold parN
  rw [List.countP_cons]
  omega
theorem replP_none {l : List UInt8} (h : parN l = 0) : replP l = l := by
 induction l with
 | nil => rfl
 | cons c l ih =>
  unfold parN at h ih
  rw [List.countP_cons] at h
  have h1 : isPar c = false := by
   cases hc : isPar c with
   | false => rfl
   | true => rw [hc] at h; simp at h
  rw [show replP (c :: l) = rep1 c ++ replP l from rfl, ih (by omega)]
  unfold isPar at h1
  simp only [Bool.or_eq_false_iff, decide_eq_false_iff_not] at h1
  unfold rep1
  rw [if_neg h1.1, if_neg h1.2]; rfl
theorem parN_counts (l : List UInt8) : parN l = l.count 41 + l.count 40 := by
 induction l with
 | nil => rfl
 | cons c l ih =>
  unfold parN at ih ⊢
  rw [List.countP_cons, ih, List.count_cons, List.count_cons]
  unfold isPar
  by_cases h : c = 40
  ·subst h; simp; omega
  ·by_cases h2 : c = 41
   ·subst h2; simp; omega
   ·simp [h, h2]
def repV (b40 b41 c40 c41 c : Nat) : Value := if c = 40 then .slice (some ⟨b40, 0, none⟩) 3 c40 else if c = 41 then .slice (some ⟨b41, 0, none⟩) 3 c41 else .slice none 0 0
def cntA (s : List UInt8) (i : Nat) : Nat := if i = 0 then 0 else if i = 1 then s.count 41 else s.count 41 + s.count 40
theorem str_bytes (l : List UInt8) : strOfNums (l.map fun c => ((c.toNat : Nat) : Int)) = ⟨l.toArray⟩ := by
 unfold strOfNums
 rw [List.map_map]
 congr 2
 conv => rhs; rw [← List.map_id l]
 apply List.map_congr_left
 intro b _
 simp
def BufAt (W : World) (bf N : Nat) (l : List UInt8) : Prop := ∃ cur : Array Value, W.heap[bf]? = some (.cells cur 5 (0, 0)) ∧ cur.size = N ∧ ∀ k (h : k < l.length), cur[k]? = some (.int .u8 ((l[k].toNat : Nat) : Int))
theorem below_setRow {w W : World} {B g : Nat} (h : Below B w W) (hB : B ≤ g) (cs : Array Value) : Below B w (W.setRow g cs) := by
 refine ⟨h.os, h.tape, h.output, by simpa [World.setRow] using h.size, fun k hk => ?_⟩
 rw [← h.block k hk]
 simp only [World.setRow, Array.getElem?_modify]
 rw [if_neg (by omega)]
theorem setRow_blk {W : World} {g : Nat} {cur : Array Value} (h : W.heap[g]? = some (.cells cur 5 (0, 0))) (cs : Array Value) : (W.setRow g cs).heap[g]? = some (.cells cs 5 (0, 0)) := by
 simp [World.setRow, Array.getElem?_modify, h]
theorem buf_three {W : World} {bf N J : Nat} {cur : Array Value} {l : List UInt8} {c : UInt8} (h : W.heap[bf]? = some (.cells cur 5 (0, 0))) (hs : cur.size = N) (hl : l.length = J) (hfit : J + 3 ≤ N)
  (hc : ∀ k (h : k < l.length), cur[k]? = some (.int .u8 ((l[k].toNat : Nat) : Int))) :
  BufAt (W.setRow bf (cur.toList.take J ++ [Value.int .u8 32, Value.int .u8 ((c.toNat : Nat) : Int), Value.int .u8 32] ++ cur.toList.drop (J + 3)).toArray) bf N (l ++ [32, c, 32]) := by
 refine ⟨_, setRow_blk h _, ?_, ?_⟩
 ·simp; omega
 ·intro k hk
  have htl : (cur.toList.take J).length = J := by rw [List.length_take, Array.length_toList]; omega
  simp only [List.length_append, List.length_cons, List.length_nil] at hk
  rw [List.getElem?_toArray, List.append_assoc]
  rcases Nat.lt_or_ge k J with h1 | h1
  ·rw [List.getElem?_append_left (by omega), List.getElem?_take_of_lt h1, Array.getElem?_toList, hc k (by omega), List.getElem_append_left (by omega)]
  ·rw [List.getElem?_append_right (by omega), htl, List.getElem_append_right (by omega)]
   obtain ⟨d, rfl⟩ : ∃ d, k = J + d := ⟨k - J, by omega⟩
   simp only [Nat.add_sub_cancel_left, hl]
   rcases d with _ | _ | _ | d
   ·rfl
   ·rfl
   ·rfl
   ·omega
theorem buf_one {W : World} {bf N J : Nat} {cur : Array Value} {l : List UInt8} {c : UInt8} (h : W.heap[bf]? = some (.cells cur 5 (0, 0))) (hs : cur.size = N) (hl : l.length = J) (hfit : J + 1 ≤ N)
  (hc : ∀ k (h : k < l.length), cur[k]? = some (.int .u8 ((l[k].toNat : Nat) : Int))) :
  BufAt (W.setCell ⟨bf, J, none⟩ (.int .u8 ((c.toNat : Nat) : Int))) bf N (l ++ [c]) := by
 refine ⟨_, blk_set h J _, ?_, ?_⟩
 ·rw [Array.size_setIfInBounds]; exact hs
 ·intro k hk
  simp only [List.length_append, List.length_cons, List.length_nil] at hk
  by_cases h1 : k = J
  ·subst h1
   rw [Array.getElem?_setIfInBounds_self_of_lt (by omega), List.getElem_append_right (by omega)]
   simp [hl]
  ·rw [Array.getElem?_setIfInBounds_ne (by omega), hc k (by omega), List.getElem_append_left (by omega)]
set_option maxRecDepth 100000 in
set_option maxHeartbeats 4000000 in
theorem brep_any (B g : Nat) (s : ByteArray) (w : World) (hb : BSR w B g) (hs : s.size ≤ 1099511627776) :
  Calls Tryz.prog 161 #[.pointer (some ⟨g, 0, none⟩), .string s] w fun e w' => e = .returned (.string ⟨(replP s.data.toList).toArray⟩) ∧ Below w.heap.size w w' := by
 obtain ⟨cs, b40, b41, bt, c40, c41, ct, hg, _, _, _, _, h40, h41, ho, h256, hv40, hv41, ht0, ht1⟩ := hb.out
 have hc256 : w.cell? ⟨g, 256, none⟩ = some (.slice (some ⟨bt, 0, none⟩) 2 ct) := (blk_cell hg 256).trans h256
 have hrep : ∀ c, c < 256 → w.cell? ⟨g, c, none⟩ = some (repV b40 b41 c40 c41 c) := by
  intro c hc
  refine (blk_cell hg c).trans ?_
  unfold repV
  by_cases h1 : c = 40
  ·subst h1; rw [if_pos rfl]; exact h40
  ·by_cases h2 : c = 41
   ·subst h2; rw [if_neg h1, if_pos rfl]; exact h41
   ·rw [if_neg h1, if_neg h2]; exact ho c hc h1 h2
 have qN : ∀ (w : World) (a : Option Addr) (n c : Nat), (binOp .neq 51 (.slice a n c) (.slice none 0 0)).run Tryz.prog w = .ok (.bool (!a.isNone)) w := fun w a n c => run_neq_slice_nil w 51 5 a n c Tryz.underlying51
 have HREP := Aside0.mk hrep
 clear hg h40 h41 ho h256 hrep hb
 have HT0 := Aside0.mk ht0
 have HT1 := Aside0.mk ht1
 have HV40 := Aside0.mk hv40
 have HV41 := Aside0.mk hv41
 have hkeep : ∀ (W : World), Below w.heap.size w W → ∀ c, c < 256 → W.cell? ⟨g, c, none⟩ = some (repV b40 b41 c40 c41 c) := fun W hW c hc => cell_keeps (HREP.out c hc) hW
 have HKEEP := Aside0.mk hkeep
 have HC256 := Aside0.mk hc256
 clear ht0 ht1 hv40 hv41 hkeep
 go_enter Tryz.func161, Tryz.ntmps161
 go_upto_if 26 with fail
 go_cut [5, 6] (fun v5 v6 wc => v5 = .int .i64 ((s.size + 2 * parN s.data.toList : Nat) : Int) ∧ v6 = .bool (!decide (parN s.data.toList = 0)) ∧ Aside0 (Below w.heap.size w wc))
 case first =>
  obtain ⟨big, hbig⟩ : ∃ big, decide ((16 : Int) ≤ (s.size : Int)) = big := ⟨_, rfl⟩
  rw [hbig]
  clear hbig
  cases hbig : big with
  | true =>
   subst hbig
   go_wp2_with fail
   go_loopg [5, 6, 32] 2 (fun k v5 v6 v32 wx => ∃ (i : Nat), v32 = .int .i64 i ∧ i + k = 2 ∧ v5 = .int .i64 ((s.size + 2 * cntA s.data.toList i : Nat) : Int) ∧ v6 = .bool (!decide (cntA s.data.toList i = 0)) ∧ Aside0 (Below w.heap.size w wx))
   case atStart => exact ⟨0, rfl, by omega, rfl, rfl, ⟨Below.refl _ _⟩⟩
   case round =>
    obtain ⟨i, rfl, hig, rfl, rfl, HW⟩ := hrel
    cases gk with
    | zero =>
     have hiK : ¬ ((i : Int) < 2) := by omega
     obtain rfl : i = 2 := by omega
     have htk : cntA s.data.toList 2 = parN s.data.toList := (parN_counts _).symm
     rw [htk]
     go_wp2_with fail
     go_meet
     case rel => exact ⟨rfl, rfl, HW⟩
    | succ k =>
     have hW := HW.out
     have ht0 := cell_keeps HT0.out hW
     have ht1 := cell_keeps HT1.out hW
     have hc4 := HKEEP.out wr hW 40 (by decide)
     have hc5 := HKEEP.out wr hW 41 (by decide)
     replace hc4 : wr.cell? ⟨g, 40, none⟩ = some (.slice (some ⟨b40, 0, none⟩) 3 c40) := hc4
     replace hc5 : wr.cell? ⟨g, 41, none⟩ = some (.slice (some ⟨b41, 0, none⟩) 3 c41) := hc5
     have hC0 := Tryz.strings_Count_one s 41 wr
     have hC1 := Tryz.strings_Count_one s 40 wr
     unfold Lib.countByte at hC0 hC1
     have hle0 : s.data.toList.count 41 ≤ s.size := by rw [← dlen]; exact List.count_le_length
     have hle1 : s.data.toList.count 40 ≤ s.size := by rw [← dlen]; exact List.count_le_length
     have e40 : ((⟨#[40]⟩ : ByteArray)[0]'(by decide)).toNat = 40 := rfl
     have e41 : ((⟨#[41]⟩ : ByteArray)[0]'(by decide)).toNat = 41 := rfl
     rcases (show i = 0 ∨ i = 1 by omega) with rfl | rfl
     ·have hz3 : cntA s.data.toList 0 = 0 := rfl
      rw [hz3]
      by_cases hz : s.data.toList.count 41 = 0
      ·have hz1 : ((s.data.toList.count 41 : Nat) : Int) = 0 := by omega
       rw [hz1] at hC0
       have hz2 : cntA s.data.toList 1 = 0 := hz
       go_wp2_with (go_at_call 163; refine hC0.mono ?_; rintro e w' ⟨rfl, rfl⟩)
       go_roundg k
       case measure => omega
       case rel => exact ⟨1, by (rfl), by omega, by (rw [hz2]; try rfl), by (rw [hz2]; try ((rfl))), HW⟩
      ·have hz1 : ((s.data.toList.count 41 : Int) != 0) = true := by simpa using hz
       obtain ⟨K, hK⟩ : ∃ K, s.data.toList.count 41 = K := ⟨_, rfl⟩
       have hz2 : cntA s.data.toList 1 = K := hK
       rw [hK] at hC0 hz1 hz hle0
       go_wp2_with (go_at_call 163; refine hC0.mono ?_; rintro e w' ⟨rfl, rfl⟩)
       go_quiet (fail)
       go_wp2_with fail
       go_roundg k
       case measure => omega
       case rel => exact ⟨1, by (rfl), by omega, by rw [hz2]; (congr 1; omega), by rw [hz2]; (simp; omega), ⟨pw_below_drewN HW.out _⟩⟩
     ·obtain ⟨K0, hK0⟩ : ∃ K, s.data.toList.count 41 = K := ⟨_, rfl⟩
      have hz3 : cntA s.data.toList 1 = K0 := hK0
      rw [hK0] at hle0
      rw [hz3]
      by_cases hz : s.data.toList.count 40 = 0
      ·have hz1 : ((s.data.toList.count 40 : Nat) : Int) = 0 := by omega
       rw [hz1] at hC1
       have hz2 : cntA s.data.toList 2 = K0 := by show s.data.toList.count 41 + s.data.toList.count 40 = K0; omega
       go_wp2_with (go_at_call 163; refine hC1.mono ?_; rintro e w' ⟨rfl, rfl⟩)
       go_roundg k
       case measure => omega
       case rel => exact ⟨2, by (rfl), by omega, by (rw [hz2]; try rfl), by (rw [hz2]; try ((rfl))), HW⟩
      ·have hz1 : ((s.data.toList.count 40 : Int) != 0) = true := by simpa using hz
       obtain ⟨K, hK⟩ : ∃ K, s.data.toList.count 40 = K := ⟨_, rfl⟩
       have hz2 : cntA s.data.toList 2 = K0 + K := by show s.data.toList.count 41 + s.data.toList.count 40 = K0 + K; omega
       rw [hK] at hC1 hz1 hz hle1
       go_wp2_with (go_at_call 163; refine hC1.mono ?_; rintro e w' ⟨rfl, rfl⟩)
       go_quiet (fail)
       go_wp2_with fail
       go_roundg k
       case measure => omega
       case rel => exact ⟨2, by (rfl), by omega, by rw [hz2]; (congr 1; omega), by rw [hz2]; (simp; omega), ⟨pw_below_drewN HW.out _⟩⟩
  | false =>
   subst hbig
   go_wp2_with fail
   go_loopg [5, 6, 10] s.size (fun k v5 v6 v10 wx => ∃ (i : Nat), v10 = .int .i64 i ∧ i + k = s.size ∧ v5 = .int .i64 ((s.size + 2 * parN (s.data.toList.take i) : Nat) : Int) ∧ v6 = .bool (!decide (parN (s.data.toList.take i) = 0)) ∧ Aside0 (Below w.heap.size w wx))
   case atStart => exact ⟨0, rfl, by omega, rfl, rfl, ⟨Below.refl _ _⟩⟩
   case round =>
    obtain ⟨i, rfl, hig, rfl, rfl, HW⟩ := hrel
    cases gk with
    | zero =>
     have hiK : ¬ ((i : Int) < (s.size : Int)) := by omega
     have htk : s.data.toList.take i = s.data.toList := List.take_of_length_le (by rw [dlen]; omega)
     rw [htk]
     go_wp2_with fail
     go_meet
     case rel => exact ⟨rfl, rfl, HW⟩
    | succ k =>
     have hlt : i < s.size := by omega
     have hiK : (i : Int) < (s.size : Int) := by omega
     have hi0 : (0 : Int) ≤ (i : Int) := by omega
     have hW := HW.out
     have hil : i < s.data.toList.length := by rw [dlen]; exact hlt
     obtain ⟨c, hc⟩ : ∃ c : UInt8, s.data.toList[i] = c := ⟨_, rfl⟩
     have hcn : (s[i]'hlt).toNat = c.toNat := by rw [← hc]; rfl
     have htk : parN (s.data.toList.take (i + 1)) = parN (s.data.toList.take i) + (if isPar c then 1 else 0) := by
      rw [List.take_succ_eq_append_getElem hil, hc]; unfold parN; rw [List.countP_append, List.countP_cons]; simp
     have hle : parN (s.data.toList.take i) ≤ s.size := by
      have := List.countP_le_length (p := isPar) (l := s.data.toList.take i); rw [List.length_take] at this; unfold parN; omega
     have hcl : c.toNat < 256 := c.toNat_lt
     have hq := HKEEP.out wr hW c.toNat hcl
     have HTK := Aside0.mk htk
     clear htk hc
     by_cases h40 : c = 40
     ·subst h40
      have hq : wr.cell? ⟨g, 40, none⟩ = some (.slice (some ⟨b40, 0, none⟩) 3 c40) := hq
      have hcn : (s[i]'hlt).toNat = 40 := hcn
      go_wp2_with fail
      go_roundg k
      case measure => omega
      case rel => exact ⟨i + 1, by (rfl), by omega, congrArg (Value.int .i64) (by rw [HTK.out, show isPar 40 = true from rfl]; simp; omega), by rw [HTK.out, show isPar 40 = true from rfl]; simp, HW⟩
     ·by_cases h41 : c = 41
      ·subst h41
       have hq : wr.cell? ⟨g, 41, none⟩ = some (.slice (some ⟨b41, 0, none⟩) 3 c41) := hq
       have hcn : (s[i]'hlt).toNat = 41 := hcn
       go_wp2_with fail
       go_roundg k
       case measure => omega
       case rel => exact ⟨i + 1, by (rfl), by omega, congrArg (Value.int .i64) (by rw [HTK.out, show isPar 41 = true from rfl]; simp; omega), by rw [HTK.out, show isPar 41 = true from rfl]; simp, HW⟩
      ·have h40n : ¬ c.toNat = 40 := fun e => h40 (UInt8.toNat_inj.1 e)
       have h41n : ¬ c.toNat = 41 := fun e => h41 (UInt8.toNat_inj.1 e)
       have hp : isPar c = false := by unfold isPar; simp [h40, h41]
       replace hq : wr.cell? ⟨g, c.toNat, none⟩ = some (.slice none 0 0) := by rw [hq]; unfold repV; rw [if_neg h40n, if_neg h41n]
       go_wp2_with fail
       go_roundg k
       case measure => omega
       case rel => exact ⟨i + 1, by (rfl), by omega, congrArg (Value.int .i64) (by rw [HTK.out, hp]; simp), by rw [HTK.out, hp]; simp, HW⟩
 case rest =>
  obtain ⟨rfl, rfl, HW⟩ := hcut
  by_cases hz : parN s.data.toList = 0
  ·have hz1 : decide (parN s.data.toList = 0) = true := decide_eq_true hz
   rw [hz1]
   go_wp2
   go_ret
   exact ⟨by rw [replP_none hz, mk_of]; rfl, HW.out⟩
  ·have hz1 : decide (parN s.data.toList = 0) = false := decide_eq_false hz
   rw [hz1]
   have hle : parN s.data.toList ≤ s.size := by
    have := List.countP_le_length (p := isPar) (l := s.data.toList); rw [dlen] at this; exact this
   obtain ⟨N, hN⟩ : ∃ N, s.size + 2 * parN s.data.toList = N := ⟨_, rfl⟩
   have hRN : (replP s.data.toList).length = N := by rw [replP_len, dlen]; exact hN
   rw [hN]
   obtain ⟨i5, hi5, hz50, hz51, hz52⟩ := info_parts infoByte
   have hmk : ∀ W : World, (Instr.makeSlice 51 (.int .i64 (N : Int)) (.int .i64 (N : Int))).run Tryz.prog W = .ok (.slice (some ⟨W.heap.size, 0, none⟩) N N) (W.alloc (.cells (madeCells (Value.int .u8 0).cells (N * 1)) 5 (0, 0))) := by
    intro W
    have h := run_make (P := Tryz.prog) W 51 5 i5 (.int .u8 0) Tryz.underlying51 hi5 hz50 .i64 .i64 (N : Int) (N : Int) (by omega) (Int.le_refl _) (by rw [hz52]; omega) (by omega)
    rw [hz51, Int.toNat_natCast] at h
    exact h
   have hms : (madeCells (Value.int .u8 0).cells (N * 1)).size = N := (size_madeCells _ _).trans (Nat.mul_one N)
   generalize madeCells (Value.int .u8 0).cells (N * 1) = Z at hmk hms
   have HRN := Aside0.mk hRN
   clear hRN hz hz1
   go_wp2_with fail
   go_loopg [13, 14] s.size (fun k v13 v14 wx => ∃ (i : Nat), v14 = .int .i64 i ∧ i + k = s.size ∧ v13 = .int .i64 (((replP (s.data.toList.take i)).length : Nat) : Int) ∧ Aside0 (Below w.heap.size w wx) ∧ Aside0 (BufAt wx wc.heap.size N (replP (s.data.toList.take i))))
   case atStart => exact ⟨0, rfl, by omega, rfl, ⟨below_alloc HW.out _⟩, ⟨Z, blk_new _ _, hms, fun k h => absurd h (by simp [replP])⟩⟩
   case round =>
    obtain ⟨i, rfl, hig, rfl, HW2, HBF⟩ := hrel
    cases gk with
    | zero =>
     have hiK : ¬ ((i : Int) < (s.size : Int)) := by omega
     have htk : s.data.toList.take i = s.data.toList := List.take_of_length_le (by rw [dlen]; omega)
     rw [htk] at HBF
     obtain ⟨cur, hcur, hcs, hcc⟩ := HBF.out
     have hstr : (convert 51 9 (.slice (some ⟨wc.heap.size, 0, none⟩) N N)).run Tryz.prog wr = .ok (.string (strOfNums ((replP s.data.toList).map fun c => ((c.toNat : Nat) : Int)))) wr :=
      run_convert_bytes_arg wr 51 5 Tryz.underlying51 Tryz.underlying5 wc.heap.size 0 N N _ (by rw [List.length_map]; exact HRN.out) (fun q hq => by
       rw [Nat.zero_add]
       refine (blk_cell hcur q).trans ?_
       have hql : q < (replP s.data.toList).length := by rw [HRN.out]; exact hq
       rw [hcc q hql, List.getD_eq_getElem?_getD, List.getElem?_map, List.getElem?_eq_getElem hql]; rfl) 9 Tryz.underlying9
     have hnum := Aside0.mk (show strOfNums ((replP s.data.toList).map fun c => ((c.toNat : Nat) : Int)) = ⟨(replP s.data.toList).toArray⟩ from str_bytes _)
     go_wp2
     go_ret
     exact ⟨by rw [← hnum.out]; rfl, HW2.out⟩
    | succ k =>
     have hlt : i < s.size := by omega
     have hiK : (i : Int) < (s.size : Int) := by omega
     have hi0 : (0 : Int) ≤ (i : Int) := by omega
     have hil : i < s.data.toList.length := by rw [dlen]; exact hlt
     obtain ⟨c, hc⟩ : ∃ c : UInt8, s.data.toList[i] = c := ⟨_, rfl⟩
     have hcn : (s[i]'hlt).toNat = c.toNat := by rw [← hc]; rfl
     have htk : replP (s.data.toList.take (i + 1)) = replP (s.data.toList.take i) ++ rep1 c := by
      rw [List.take_succ_eq_append_getElem hil, hc]; unfold replP; rw [List.flatMap_append, List.flatMap_cons, List.flatMap_nil, List.append_nil]
     have hfit : (replP (s.data.toList.take i)).length + (rep1 c).length ≤ N := by
      rw [← HRN.out, ← List.length_append, ← htk]
      conv => rhs; rw [← List.take_append_drop (i + 1) s.data.toList]
      unfold replP; rw [List.flatMap_append, List.length_append]; omega
     have hcl : c.toNat < 256 := c.toNat_lt
     have hq := HKEEP.out wr HW2.out c.toNat hcl
     obtain ⟨cur, hcur, hcs, hcc⟩ := HBF.out
     obtain ⟨J, hJ⟩ : ∃ J, (replP (s.data.toList.take i)).length = J := ⟨_, rfl⟩
     rw [hJ] at hfit
     rw [hJ]
     have HTK := Aside0.mk htk
     have HJ := Aside0.mk hJ
     have HCC := Aside0.mk hcc
     clear htk hc hJ hcc
     by_cases h40 : c = 40
     ·subst h40
      replace hq : wr.cell? ⟨g, 40, none⟩ = some (.slice (some ⟨b40, 0, none⟩) 3 c40) := hq
      replace hcn : (s[i]'hlt).toNat = 40 := hcn
      replace hfit : J + 3 ≤ N := hfit
      have hJN : ¬ N = J := by omega
      have hJ0 : (0 : Int) ≤ (J : Int) := by omega
      have hJ1 : (J : Int) ≤ (N : Int) := by omega
      have hcp : (Builtin.copy_ #[51, 51] 3 #[.slice (some ⟨wc.heap.size, J, none⟩) (N - J) (N - J), .slice (some ⟨b40, 0, none⟩) 3 c40]).run Tryz.prog wr.drew = .ok (.int .i64 3) (wr.drew.setRow wc.heap.size (cur.toList.take J ++ [Value.int .u8 32, Value.int .u8 40, Value.int .u8 32] ++ cur.toList.drop (J + 3)).toArray) :=
       run_copy_row (P := Tryz.prog) wr.drew 51 51 3 5 wc.heap.size J (N - J) (N - J) ⟨b40, 0, none⟩ 3 c40 cur 5 [Value.int .u8 32, Value.int .u8 40, Value.int .u8 32] Tryz.underlying51 (by kernel_rfl) (blk_drew hcur) (by show 3 = min 3 (N - J); omega) (fun j v hv => by
        rw [add_plain]
        have hj3 : j < 3 := by
         rcases Nat.lt_or_ge j 3 with h' | h'
         ·exact h'
         ·rw [List.getElem?_eq_none (by simpa using h')] at hv; cases hv
        refine (cell_keeps (HV40.out j hj3) HW2.out).trans ?_
        rw [← hv]
        rcases j with _ | _ | _ | j <;> first | rfl | omega) (by rw [hcs]; exact hfit) (by intro v hv; simp only [List.mem_cons, List.not_mem_nil, or_false] at hv; rcases hv with rfl | rfl | rfl <;> rfl)
      have HBN : Aside0 (BufAt (wr.drew.setRow wc.heap.size (cur.toList.take J ++ [Value.int .u8 32, Value.int .u8 40, Value.int .u8 32] ++ cur.toList.drop (J + 3)).toArray) wc.heap.size N (replP (s.data.toList.take (i + 1)))) := ⟨by
       rw [HTK.out]
       exact buf_three (c := 40) (blk_drew hcur) hcs HJ.out hfit HCC.out⟩
      have HWN : Aside0 (Below w.heap.size w (wr.drew.setRow wc.heap.size (cur.toList.take J ++ [Value.int .u8 32, Value.int .u8 40, Value.int .u8 32] ++ cur.toList.drop (J + 3)).toArray)) := ⟨below_setRow HW2.out.drew (HW.out.size) _⟩
      have HLN := Aside0.mk (show (replP (s.data.toList.take (i + 1))).length = J + 3 by rw [HTK.out, List.length_append, HJ.out]; rfl)
      generalize wr.drew.setRow wc.heap.size (cur.toList.take J ++ [Value.int .u8 32, Value.int .u8 40, Value.int .u8 32] ++ cur.toList.drop (J + 3)).toArray = wn at hcp HBN HWN
      go_upto_region 28 with fail
      go_region_with fail
      all_goals (go_wp2_with fail; go_roundg k; (case measure => omega); (case rel => exact ⟨i + 1, by (rfl), by omega, congrArg (Value.int .i64) (by rw [HLN.out]; (rfl)), HWN, HBN⟩))
     ·by_cases h41 : c = 41
      ·subst h41
       replace hq : wr.cell? ⟨g, 41, none⟩ = some (.slice (some ⟨b41, 0, none⟩) 3 c41) := hq
       replace hcn : (s[i]'hlt).toNat = 41 := hcn
       replace hfit : J + 3 ≤ N := hfit
       have hJN : ¬ N = J := by omega
       have hJ0 : (0 : Int) ≤ (J : Int) := by omega
       have hJ1 : (J : Int) ≤ (N : Int) := by omega
       have hcp : (Builtin.copy_ #[51, 51] 3 #[.slice (some ⟨wc.heap.size, J, none⟩) (N - J) (N - J), .slice (some ⟨b41, 0, none⟩) 3 c41]).run Tryz.prog wr.drew = .ok (.int .i64 3) (wr.drew.setRow wc.heap.size (cur.toList.take J ++ [Value.int .u8 32, Value.int .u8 41, Value.int .u8 32] ++ cur.toList.drop (J + 3)).toArray) :=
        run_copy_row (P := Tryz.prog) wr.drew 51 51 3 5 wc.heap.size J (N - J) (N - J) ⟨b41, 0, none⟩ 3 c41 cur 5 [Value.int .u8 32, Value.int .u8 41, Value.int .u8 32] Tryz.underlying51 (by kernel_rfl) (blk_drew hcur) (by show 3 = min 3 (N - J); omega) (fun j v hv => by
         rw [add_plain]
         have hj3 : j < 3 := by
          rcases Nat.lt_or_ge j 3 with h' | h'
          ·exact h'
          ·rw [List.getElem?_eq_none (by simpa using h')] at hv; cases hv
         refine (cell_keeps (HV41.out j hj3) HW2.out).trans ?_
         rw [← hv]
         rcases j with _ | _ | _ | j <;> first | rfl | omega) (by rw [hcs]; exact hfit) (by intro v hv; simp only [List.mem_cons, List.not_mem_nil, or_false] at hv; rcases hv with rfl | rfl | rfl <;> rfl)
       have HBN : Aside0 (BufAt (wr.drew.setRow wc.heap.size (cur.toList.take J ++ [Value.int .u8 32, Value.int .u8 41, Value.int .u8 32] ++ cur.toList.drop (J + 3)).toArray) wc.heap.size N (replP (s.data.toList.take (i + 1)))) := ⟨by
        rw [HTK.out]
        exact buf_three (c := 41) (blk_drew hcur) hcs HJ.out hfit HCC.out⟩
       have HWN : Aside0 (Below w.heap.size w (wr.drew.setRow wc.heap.size (cur.toList.take J ++ [Value.int .u8 32, Value.int .u8 41, Value.int .u8 32] ++ cur.toList.drop (J + 3)).toArray)) := ⟨below_setRow HW2.out.drew (HW.out.size) _⟩
       have HLN := Aside0.mk (show (replP (s.data.toList.take (i + 1))).length = J + 3 by rw [HTK.out, List.length_append, HJ.out]; rfl)
       generalize wr.drew.setRow wc.heap.size (cur.toList.take J ++ [Value.int .u8 32, Value.int .u8 41, Value.int .u8 32] ++ cur.toList.drop (J + 3)).toArray = wn at hcp HBN HWN
       go_upto_region 28 with fail
       go_region_with fail
       all_goals (go_wp2_with fail; go_roundg k; (case measure => omega); (case rel => exact ⟨i + 1, by (rfl), by omega, congrArg (Value.int .i64) (by rw [HLN.out]; (rfl)), HWN, HBN⟩))
      ·have h40n : ¬ c.toNat = 40 := fun e => h40 (UInt8.toNat_inj.1 e)
       have h41n : ¬ c.toNat = 41 := fun e => h41 (UInt8.toNat_inj.1 e)
       replace hq : wr.cell? ⟨g, c.toNat, none⟩ = some (.slice none 0 0) := by rw [hq]; unfold repV; rw [if_neg h40n, if_neg h41n]
       have hr1 : rep1 c = [c] := by unfold rep1; rw [if_neg h40, if_neg h41]
       rw [hr1] at hfit
       replace hfit : J + 1 ≤ N := hfit
       have hJ0 : (0 : Int) ≤ (J : Int) := by omega
       have hJ1 : (J : Int) < (N : Int) := by omega
       have hcJ : ∃ v, wr.cell? ⟨wc.heap.size, J, none⟩ = some v := ⟨cur[J]'(by omega), (blk_cell hcur J).trans (by simp [hcs, show J < N by omega])⟩
       obtain ⟨vJ, hvJ⟩ := hcJ
       have hzJ := Lib.frozen_of_heap hcur J
       have HBN : Aside0 (BufAt (wr.setCell ⟨wc.heap.size, J, none⟩ (.int .u8 ((c.toNat : Nat) : Int))) wc.heap.size N (replP (s.data.toList.take (i + 1)))) := ⟨by
        rw [HTK.out, hr1]
        exact buf_one hcur hcs HJ.out hfit HCC.out⟩
       have HWN : Aside0 (Below w.heap.size w (wr.setCell ⟨wc.heap.size, J, none⟩ (.int .u8 ((c.toNat : Nat) : Int)))) := ⟨HW2.out.setCell (p := ⟨wc.heap.size, J, none⟩) HW.out.size _⟩
       have HLN := Aside0.mk (show (replP (s.data.toList.take (i + 1))).length = J + 1 by rw [HTK.out, List.length_append, HJ.out, hr1]; rfl)
       go_wp2_with fail
       go_roundg k
       case measure => omega
       case rel => exact ⟨i + 1, by (rfl), by omega, congrArg (Value.int .i64) (by rw [HLN.out]; (rfl)), HWN, HBN⟩
end Go.Proofs.YtjcipbdocbomjaaGreatDoor.K
namespace Go.Proofs.YtjcipbdocbomjaaGreatDoor.K
def OnlyB (w w' : World) (b : Nat) : Prop := w'.os = w.os ∧ w'.tape = w.tape ∧ w'.output = w.output ∧ w.heap.size ≤ w'.heap.size ∧ ∀ k, k < w.heap.size → k ≠ b → w'.heap[k]? = w.heap[k]?
theorem OnlyB.of_below {w w' : World} (b : Nat) (h : Below w.heap.size w w') : OnlyB w w' b := ⟨h.os, h.tape, h.output, h.size, fun k hk _ => h.block k hk⟩
theorem OnlyB.set {w w' : World} {b : Nat} (h : OnlyB w w' b) (i : Nat) (u : Value) : OnlyB w (w'.setCell ⟨b, i, none⟩ u) b :=
 ⟨h.1, h.2.1, h.2.2.1, by simpa [World.setCell] using h.2.2.2.1, fun k hk hne => (Below.heap_setCell w' ⟨b, i, none⟩ u k hne).trans (h.2.2.2.2 k hk hne)⟩
theorem OnlyB.drew {w w' : World} {b : Nat} (h : OnlyB w w' b) : OnlyB w w'.drew b := h
theorem OnlyB.below {w w' : World} {b B : Nat} (h : OnlyB w w' b) (hb : B ≤ b) (hB : B ≤ w.heap.size) : Below B w w' :=
 ⟨h.1, h.2.1, h.2.2.1, h.2.2.2.1, fun k hk => h.2.2.2.2 k (by omega) (by omega)⟩
theorem OnlyB.pre {w w1 w2 : World} {b i : Nat} {u : Value} (h1 : w1 = w.setCell ⟨b, i, none⟩ u) (h : OnlyB w1 w2 b) : OnlyB w w2 b := by
 subst h1
 refine ⟨h.1, h.2.1, h.2.2.1, by simpa [World.setCell] using h.2.2.2.1, fun k hk hne => ?_⟩
 rw [h.2.2.2.2 k (by simpa [World.setCell] using hk) hne]
 exact Below.heap_setCell w ⟨b, i, none⟩ u k hne
theorem BSR.set {w : World} {B g b : Nat} (h : BSR w B g) (hb : b < B) (i : Nat) (u : Value) : BSR (w.setCell ⟨b, i, none⟩ u) B g := by
 obtain ⟨cs, b40, b41, bt, c40, c41, ct, hg, h1, h2, h3, h4, h40, h41, ho, h256, hv40, hv41, ht0, ht1⟩ := h.out
 have hc : ∀ k j, B ≤ k → (w.setCell ⟨b, i, none⟩ u).cell? ⟨k, j, none⟩ = w.cell? ⟨k, j, none⟩ := fun k j hk => cell_of_block (Below.heap_setCell w ⟨b, i, none⟩ u k (by show k ≠ b; omega)) j
 exact ⟨cs, b40, b41, bt, c40, c41, ct, (Below.heap_setCell w ⟨b, i, none⟩ u g (by show g ≠ b; omega)).trans hg, h1, h2, h3, h4, h40, h41, ho, h256, fun j hj => (hc _ _ h2).trans (hv40 j hj), fun j hj => (hc _ _ h3).trans (hv41 j hj), (hc _ _ h4).trans ht0, (hc _ _ h4).trans ht1⟩
theorem BSR.drew {w : World} {B g : Nat} (h : BSR w B g) : BSR w.drew B g := ⟨h.out⟩
set_option maxRecDepth 100000 in
set_option maxHeartbeats 4000000 in
theorem buildOnce_any (b : Nat) (v : Value) (B : Nat) (w : World) (hb : w.heap[b]? = some (.cells (repC 0 1 .nilIface v) 123 (0, 0))) (hv : w.ownsRow B 9 1 v 4 [.string ⟨#[40]⟩, .string ⟨#[32, 40, 32]⟩, .string ⟨#[41]⟩, .string ⟨#[32, 41, 32]⟩]) :
  Calls Tryz.prog 88 #[.pointer (some ⟨b, 0, none⟩)] w fun e w' => e = .returned (.tuple #[]) ∧ ∃ g, w'.heap[b]? = some (.cells (repC 0 1 (.iface 162 (.pointer (some ⟨g, 0, none⟩))) (.slice none 0 0)) 123 (0, 0)) ∧ BSR w' w.heap.size g ∧ OnlyB w w' b := by
 have hB := build_any b v B w hb hv
 have hlt := blk_lt hb
 have HB := Aside0.mk hb
 clear hv hb
 go_enter Tryz.func88, Tryz.ntmps88
 go_wp2_with (go_at_call 101; refine hB.mono ?_; rintro e w1 ⟨g, rfl, hs, hb1⟩; have hb2 := blk_below HB.out hb1; have hc3 : w1.cell? ⟨b, 3, none⟩ = some .nilIface := blk_cell hb2 3; have hc4 : w1.cell? ⟨b, 4, none⟩ = some v := blk_cell hb2 4; have hz3 := Lib.frozen_of_heap hb2 3; have hz4 := Lib.frozen_of_heap hb2 4)
 go_end0
 exact ⟨rfl, g, blk_put (blk_put hb2 3 _ rfl) 4 _ rfl, (hs.set hlt 3 _).set hlt 4 _, ((OnlyB.of_below b hb1).set 3 _).set 4 _⟩
set_option maxRecDepth 100000 in
set_option maxHeartbeats 4000000 in
theorem replace_any (b : Nat) (v : Value) (B : Nat) (s : ByteArray) (w : World) (hB : B ≤ b) (hb : w.heap[b]? = some (.cells (repC 0 0 .nilIface v) 123 (0, 0))) (hv : w.ownsRow B 9 1 v 4 [.string ⟨#[40]⟩, .string ⟨#[32, 40, 32]⟩, .string ⟨#[41]⟩, .string ⟨#[32, 41, 32]⟩]) (hs : s.size ≤ 1099511627776) :
  Calls Tryz.prog 74 #[.pointer (some ⟨b, 0, none⟩), .string s] w fun e w' => e = .returned (.string ⟨(replP s.data.toList).toArray⟩) ∧ Below B w w' := by
 have hlt := blk_lt hb
 have hD : Calls Tryz.prog 87 #[.pointer (some ⟨b, 0, none⟩), .func (.func 88) #[.pointer (some ⟨b, 0, none⟩)] #[]] w fun e w' => e = .returned (.tuple #[]) ∧ ∃ g, w'.heap[b]? = some (.cells (repC 1 0 (.iface 162 (.pointer (some ⟨g, 0, none⟩))) (.slice none 0 0)) 123 (0, 0)) ∧ BSR w' w.heap.size g ∧ OnlyB w w' b := by
  refine do_first b .nilIface v w (fun w2 => ∃ g, w2.heap[b]? = some (.cells (repC 0 1 (.iface 162 (.pointer (some ⟨g, 0, none⟩))) (.slice none 0 0)) 123 (0, 0)) ∧ BSR w2 w.heap.size g ∧ OnlyB w w2 b) _ ?_ hb ?_
  ·rintro w2 ⟨g, h1, h2, h3⟩ _
   exact ⟨g, blk_put (blk_put (blk_drew h1) 0 _ rfl) 1 _ rfl, (h2.drew.set hlt 0 _).set hlt 1 _, (h3.drew.set 0 _).set 1 _⟩
  ·intro w1 h1
   have hs1 : w1.heap.size = w.heap.size := by rw [h1]; simp [World.setCell]
   have hb1 : w1.heap[b]? = some (.cells (repC 0 1 .nilIface v) 123 (0, 0)) := by rw [h1]; exact blk_put hb 1 _ rfl
   have hv1 : w1.ownsRow B 9 1 v 4 [.string ⟨#[40]⟩, .string ⟨#[32, 40, 32]⟩, .string ⟨#[41]⟩, .string ⟨#[32, 41, 32]⟩] := by rw [h1]; exact own_setCell hv (p := ⟨b, 1, none⟩) (own_ne hv hb (by decide)) _
   refine (buildOnce_any b v B w1 hb1 hv1).mono ?_
   rintro e w2 ⟨rfl, g, h2, h3, h4⟩
   rw [hs1] at h3
   exact ⟨rfl, ⟨_, _, h2⟩, g, h2, h3, h4.pre h1⟩
 have hmf : ∀ (fn : Fn) (first cap : Array Value) (w : World), (Instr.makeFunc fn first cap).run Tryz.prog w = .ok (.func fn first cap) w := fun _ _ _ _ => rfl
 have hR := fun (g : Nat) (W : World) (h : BSR W w.heap.size g) => brep_any w.heap.size g s W h hs
 have hBw : B ≤ w.heap.size := by omega
 have hm : ∀ (g : Nat) (W : World), (method 323 162 (.pointer (some ⟨g, 0, none⟩)) "Replace").run Tryz.prog W = .ok (161, .pointer (some ⟨g, 0, none⟩)) W := fun _ _ => by kernel_rfl
 clear hb hv
 go_enter Tryz.func74, Tryz.ntmps74
 go_wp2_with (first | (go_at_call 87; refine hD.mono ?_; rintro e w1 ⟨rfl, g, hb1, hbs, ho⟩; have hc3 : w1.cell? ⟨b, 3, none⟩ = some (.iface 162 (.pointer (some ⟨g, 0, none⟩))) := blk_cell hb1 3) | (go_at_call 161; refine (hR g _ hbs).mono ?_; rintro e w2 ⟨rfl, hb2⟩))
 go_ret
 exact ⟨rfl, (ho.below hB hBw).trans (hb2.mono (Nat.le_trans hBw ho.2.2.2.1))⟩
end Go.Proofs.YtjcipbdocbomjaaGreatDoor.K
