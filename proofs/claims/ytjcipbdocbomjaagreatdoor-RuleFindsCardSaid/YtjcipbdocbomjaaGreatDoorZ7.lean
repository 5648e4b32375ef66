/- Texts of this claim's proof, put together: HL HMa HMb HMc HM HRd; conditions: as each states. -/
import Derived.Test.YtjcipbdocbomjaaGreatDoorZ6
import Derived.Test.YtjcipbdocbomjaaGreatDoorZ5
import Derived.Lib.AppendIntMem
import Derived.Deep.RegionHeld3
set_option linter.unusedVariables false
set_option linter.unusedSimpArgs false
open Go.RowKit Go.Proofs.YtjcipbdocbomjaaGreatDoorW.PrintWords Go.Proofs.YtjcipbdocbomjaaGreatDoorW.PrintLast Go.Proofs.YtjcipbdocbomjaaGreatDoorW.PrintMore
namespace Go.Proofs.YtjcipbdocbomjaaGreatDoor.K
structure Tabs (w : World) : Prop where
 words : WordsIn w
 ascii : Lib.TabIs Tryz.prog w "strings.asciiSpace" .u8 Lib.asciiSpaceTab
 white : Lib.WhiteTab 3 w
 len : ∃ m, w.cell? ⟨1, 0, none⟩ = some (.int .i64 m)
theorem Tabs.keep {w w1 : World} (h : Tabs w) (hb : Below w.heap.size w w1) : Tabs w1 :=
 ⟨words_below h.words hb, Lib.tabBelow_of_tabIs h.ascii w1 hb, WhiteTab_below h.white hb, h.len.elim fun m hm => ⟨m, cell_keeps hm hb⟩⟩
def piecesP (s : ByteArray) : List ByteArray := (Lib.fieldsD (replP s.data.toList)).map fun l => ⟨l.toArray⟩
def rule_parse.f (k : Nat) (s : ByteArray) : Option (ByteArray × ByteArray × ByteArray × List S33 × Bool) :=
 if s.size ≤ 1000000000 then
  (rule_parser_expr.f k (piecesP s) true).bind fun r =>
   if r.2.2.2.2.2 = true ∧ r.2.2.2.2.1 = [] then
    (if smallE ⟨r.1, r.2.1, r.2.2.1, r.2.2.2.1⟩ = true ∧ (textP ⟨r.1, r.2.1, r.2.2.1, r.2.2.2.1⟩).length ≤ 1099511627776 then some (r.1, r.2.1, r.2.2.1, r.2.2.2.1, (⟨(textP ⟨r.1, r.2.1, r.2.2.1, r.2.2.2.1⟩).toArray⟩ : ByteArray).toList == s.toList) else none)
   else some (r.1, r.2.1, r.2.2.1, r.2.2.2.1, false)
 else none
theorem strs_C {w : World} {A : Nat} {base : Nat} {xs : List (List UInt8)} (h : w.ownsRow base 9 1 (.slice (some ⟨A, 0, none⟩) xs.length xs.length) xs.length (xs.map fun x => Value.string ⟨x.toArray⟩)) :
  Kd.C Kd.string w (some ⟨A, 0, none⟩) (xs.map fun l => (⟨l.toArray⟩ : ByteArray)).length (xs.map fun l => (⟨l.toArray⟩ : ByteArray)) := by
 have hr : Kd.R Kd.string 9 w base (fun _ => True) (.slice (some ⟨A, 0, none⟩) xs.length xs.length) (xs.map fun l => (⟨l.toArray⟩ : ByteArray)) := by
  refine Kd.R_of_own ?_ (fun _ _ => trivial)
  rw [List.length_map]
  have he : encs Value.string (xs.map fun l => (⟨l.toArray⟩ : ByteArray)) = xs.map fun x => Value.string ⟨x.toArray⟩ := by simp [encs]
  rw [he]; exact h
 have hC := (Kd.R_reads' hr).2.2
 exact hC
set_option maxRecDepth 100000 in
set_option maxHeartbeats 4000000 in
theorem rule_parse.calls (k : Nat) (s : ByteArray) (r1 r2 r3 : ByteArray) (r4 : List S33) (r5 : Bool) (w : World) (h : rule_parse.f k s = some (r1, r2, r3, r4, r5)) (hT : Tabs w) :
  Calls Tryz.prog 54 #[.string s] w fun e w' => ∃ v3_ : Value, e = .returned (.tuple #[.agg #[.string r1, .string r2, .string r3, v3_], .bool r5]) ∧ Kd.R k33 33 w' w.heap.size (fun _ => True) v3_ r4 ∧ Below w.heap.size w w' := by
 unfold rule_parse.f at h
 by_cases hs : s.size ≤ 1000000000
 ·rw [if_pos hs] at h
  obtain ⟨⟨x1, x2, x3, x4, ps, ok⟩, hx, h⟩ := Option.bind_eq_some_iff.mp h
  have hrl : (replP s.data.toList).length ≤ 3000000000 := by
   rw [replP_len, dlen]
   have := List.countP_le_length (p := isPar) (l := s.data.toList); rw [dlen] at this; unfold parN; omega
  obtain ⟨T, hT1⟩ : ∃ T : ByteArray, (⟨(replP s.data.toList).toArray⟩ : ByteArray) = T := ⟨_, rfl⟩
  have hTs : T.size ≤ 3000000000 := by rw [← dlen, ← hT1]; exact hrl
  have hTd : T.data.toList = replP s.data.toList := by rw [← hT1]
  have hpc : (Lib.fieldsD T.data.toList).map (fun l => (⟨l.toArray⟩ : ByteArray)) = piecesP s := by rw [hTd]; rfl
  have hlen : (Lib.fieldsD T.data.toList).length = (piecesP s).length := by rw [← hpc, List.length_map]
  have k74 : ∀ (b : Nat) (v : Value) (B : Nat) (W : World), B ≤ b → W.heap[b]? = some (.cells (repC 0 0 .nilIface v) 123 (0, 0)) → W.ownsRow B 9 1 v 4 [.string ⟨#[40]⟩, .string ⟨#[32, 40, 32]⟩, .string ⟨#[41]⟩, .string ⟨#[32, 41, 32]⟩] → Calls Tryz.prog 74 #[.pointer (some ⟨b, 0, none⟩), .string s] W fun e w' => e = .returned (.string T) ∧ Below B W w' := by
   intro b v B W h1 h2 h3
   rw [← hT1]
   exact replace_any b v B s W h1 h2 h3 (by omega)
  have k72 : ∀ (W : World), Below w.heap.size w W → Calls Tryz.prog 72 #[.string T] W fun e w' => ∃ A c, e = .returned (.slice (some ⟨A, 0, none⟩) (piecesP s).length c) ∧ (piecesP s).length ≤ c ∧ Kd.C Kd.string w' (some ⟨A, 0, none⟩) (piecesP s).length (piecesP s) ∧ Below W.heap.size W w' := by
   intro W hW
   refine (Tryz.strings_Fields_any T W (by omega) (hT.keep hW).ascii (hT.keep hW).white).mono ?_
   rintro e w' ⟨A, rfl, hA, ho, hb⟩
   have hC := strs_C ho
   rw [hpc] at hC
   exact ⟨A, _, by rw [hlen], Nat.le_refl _, hC, hb⟩
  have HX := Aside0.mk hx
  have hWT := Below.refl w.heap.size w
  clear hx hT1 hTd hpc hlen hrl
  go_enter Tryz.func54, Tryz.ntmps54
  go_wp2_with (first | (go_at_call 73; refine (newReplacer_any (w.heap.size + 1) _ (blk_second w _ _)).mono ?_; rintro e w1 ⟨gR, v, rfl, hgR, hbR, hoR, hb1⟩; have hB1 := below_step (below_two w _ _) hb1) | (go_at_call 74; refine (k74 gR v _ _ hgR hbR hoR).mono ?_; rintro e w2 ⟨rfl, hb2⟩; have hB2 := hB1.trans (hb2.mono (by rw [alloc_size, alloc_size]; omega))) | (go_at_call 72; refine (k72 _ hB2).mono ?_; rintro e w3 ⟨A, c, rfl, hcc, hC, hb3⟩; have hB3 := hB2.trans (hb3.mono hB2.size); have hI := IsS96.new w3 w3 (some ⟨A, 0, none⟩) c (piecesP s) true (Below.refl _ _) hcc hC; have hIB := below_alloc (Below.refl w3.heap.size w3) (.cells #[.slice (some ⟨A, 0, none⟩) (piecesP s).length c, .bool true] 96 (0, 0))) | (go_at_call 75; refine (rule_parser_expr.calls k w3.heap.size (piecesP s) true x1 x2 x3 x4 ps ok w3 _ hI hIB HX.out).mono ?_; rintro e w4 ⟨v3, rfl, hR, hI4, hb4, _⟩; obtain ⟨A3, c3, rfl⟩ := Kd.R_slice hR; have hB4 := hB3.trans (hb4.mono hB3.size)))
  have hxb := blk_new w4 (.cells #[.string x1, .string x2, .string x3, .slice A3 x4.length c3] 33 (0, 0))
  have hal := below_alloc (Below.refl w4.heap.size w4) (.cells #[.string x1, .string x2, .string x3, .slice A3 x4.length c3] 33 (0, 0))
  have hB5 := below_step hB4 hal
  have hr1 := blk_below (blk_first w (.cells #[.string ⟨#[]⟩, .string ⟨#[]⟩, .string ⟨#[]⟩, .slice none 0 0] 33 (0, 0)) (.cells #[.string ⟨#[40]⟩, .string ⟨#[32, 40, 32]⟩, .string ⟨#[41]⟩, .string ⟨#[32, 41, 32]⟩] 9 (0, 0))) hb1
  have hr2 := (hb2.block w.heap.size (by rw [alloc_size, alloc_size]; omega)).trans hr1
  have hr3 := blk_below hr2 hb3
  have hr5 := blk_below ((hb4.block _ (blk_lt hr3)).trans hr3) hal
  obtain ⟨Ap, cp, hp, _, _⟩ := hI4
  have hp5 := blk_below hp hal
  have hC5 := Kd.C_below (Kd.R_reads' hR).2.2 hal
  have hc3 := (Kd.R_reads' hR).2.1
  have hR5 := Kd.R_below hR hal
  have hwg : w.heap.size < (w3.alloc (.cells #[.slice (some ⟨A, 0, none⟩) (piecesP s).length c, .bool true] 96 (0, 0))).heap.size := by rw [alloc_size]; have := hB3.size; omega
  generalize (w3.alloc (.cells #[.slice (some ⟨A, 0, none⟩) (piecesP s).length c, .bool true] 96 (0, 0))).heap.size = base at hR5 hwg
  have hg4 : w4.heap.size = w4.heap.size := rfl
  generalize w4.alloc (.cells #[.string x1, .string x2, .string x3, .slice A3 x4.length c3] 33 (0, 0)) = w5 at hxb hB5 hr5 hp5 hC5 hR5 ⊢
  generalize w4.heap.size = g4 at hxb ⊢
  generalize w3.heap.size = g3 at hp5 ⊢
  clear hg4 hp hal hr1 hr2 hr3 hb1 hb2 hb3 hb4 hI hIB hR hB4 hB3 hB2 hB1 hgR hbR hoR hWT k74 k72 hC
  have f0 : w5.cell? ⟨g4, 0, none⟩ = some (.string x1) := blk_cell hxb 0
  have f1 : w5.cell? ⟨g4, 1, none⟩ = some (.string x2) := blk_cell hxb 1
  have f2 : w5.cell? ⟨g4, 2, none⟩ = some (.string x3) := blk_cell hxb 2
  have f3 : w5.cell? ⟨g4, 3, none⟩ = some (.slice A3 x4.length c3) := blk_cell hxb 3
  have p0 : w5.cell? ⟨g3, 0, none⟩ = some (.slice Ap ps.length cp) := blk_cell hp5 0
  have p1 : w5.cell? ⟨g3, 1, none⟩ = some (.bool ok) := blk_cell hp5 1
  have s0 : w5.cell? ⟨w.heap.size, 0, none⟩ = some (.string ⟨#[]⟩) := blk_cell hr5 0
  have s1 : w5.cell? ⟨w.heap.size, 1, none⟩ = some (.string ⟨#[]⟩) := blk_cell hr5 1
  have s2 : w5.cell? ⟨w.heap.size, 2, none⟩ = some (.string ⟨#[]⟩) := blk_cell hr5 2
  have s3 : w5.cell? ⟨w.heap.size, 3, none⟩ = some (.slice none 0 0) := blk_cell hr5 3
  have z0 := Lib.frozen_of_heap hr5 0
  have z1 := Lib.frozen_of_heap hr5 1
  have z2 := Lib.frozen_of_heap hr5 2
  have z3 := Lib.frozen_of_heap hr5 3
  have HC5 := Aside0.mk hC5
  have HR5 := Aside0.mk hR5
  have HB5 := Aside0.mk hB5
  have HR5b := Aside0.mk hr5
  clear hC5 hR5 hB5 hr5 hxb hp5
  by_cases hok : ok = true ∧ ps = []
  ·obtain ⟨rfl, rfl⟩ := hok
   rw [if_pos ⟨rfl, rfl⟩] at h
   by_cases hsm : smallE ⟨x1, x2, x3, x4⟩ = true ∧ (textP ⟨x1, x2, x3, x4⟩).length ≤ 1099511627776
   ·rw [if_pos hsm] at h
    obtain ⟨X, hX⟩ : ∃ X : ByteArray, (⟨(textP ⟨x1, x2, x3, x4⟩).toArray⟩ : ByteArray) = X := ⟨_, rfl⟩
    rw [hX] at h
    injection h with h; injection h with e1 h; injection h with e2 h; injection h with e3 h; injection h with e4 e5
    subst e1 e2 e3 e4 e5
    have hText : ∀ (W : World), Below w5.heap.size w5 W → Calls Tryz.prog 27 #[.agg #[.string x1, .string x2, .string x3, .slice A3 x4.length c3]] W fun e w' => e = .returned (.string X) ∧ Below W.heap.size W w' := by
     intro W hW
     rw [← hX]
     exact text_any (SizeOf.sizeOf (⟨x1, x2, x3, x4⟩ : S33) + 1) ⟨x1, x2, x3, x4⟩ A3 c3 W (by omega) hsm.1 hsm.2 hc3 (Kd.C_below HC5.out hW)
    clear hX hsm
    refine start_ (n := 21) (S := fun w' => w'.cell? ⟨g4, 0, none⟩ = some (.string x1) ∧ w'.cell? ⟨g4, 1, none⟩ = some (.string x2) ∧ w'.cell? ⟨g4, 2, none⟩ = some (.string x3) ∧ w'.cell? ⟨g4, 3, none⟩ = some (.slice A3 x4.length c3) ∧ w'.cell? ⟨g3, 0, none⟩ = some (.slice Ap 0 cp) ∧ w'.cell? ⟨g3, 1, none⟩ = some (.bool true)) (ds := [19]) #[false, false, false, false, false, false, false, false, false, false, false, false, false, false, false, false, false, false, false, false, false] (by kernel_rfl) rfl rfl ⟨f0, f1, f2, f3, p0, p1⟩ (fun hHeld => ?_)
    have t0 := (World.cell?_drew w5 ⟨w.heap.size, 0, none⟩).trans s0
    have t1 := (World.cell?_drew w5 ⟨w.heap.size, 1, none⟩).trans s1
    have t2 := (World.cell?_drew w5 ⟨w.heap.size, 2, none⟩).trans s2
    have t3 := (World.cell?_drew w5 ⟨w.heap.size, 3, none⟩).trans s3
    have y0 : w5.drew.frozen? ⟨w.heap.size, 0, none⟩ = false := z0
    have y1 : w5.drew.frozen? ⟨w.heap.size, 1, none⟩ = false := z1
    have y2 : w5.drew.frozen? ⟨w.heap.size, 2, none⟩ = false := z2
    have y3 : w5.drew.frozen? ⟨w.heap.size, 3, none⟩ = false := z3
    generalize hwd : w5.drew = w6 at hHeld t0 t1 t2 t3 y0 y1 y2 y3 ⊢
    refine pure_ (i := 1) (N := some 18) (v := ?_) (a' := ?_) #[false, true, false, false, false, false, false, false, false, false, false, false, false, false, false, false, false, false, false, false, false] rfl rfl (by kernel_rfl) (fun _ _ _ h => h) (Or.inl ⟨by rfl, ?_⟩) ?_ ?_
    rotate_left
    ·intro w'
     go_simp
     with_reducible rfl
    rotate_left
    ·simp only [Act.put, List.setIfInBounds_toArray, List.set_cons_zero, List.set_cons_succ, i64_w, i32_w]
     rfl
    refine pure_ (i := 2) (N := some 19) (v := ?_) (a' := ?_) #[false, true, true, false, false, false, false, false, false, false, false, false, false, false, false, false, false, false, false, false, false] rfl rfl (by kernel_rfl) (fun _ _ _ h => h) (Or.inl ⟨by rfl, ?_⟩) ?_ ?_
    rotate_left
    ·intro w'
     go_simp
     with_reducible rfl
    rotate_left
    ·simp only [Act.put, List.setIfInBounds_toArray, List.set_cons_zero, List.set_cons_succ, i64_w, i32_w]
     rfl
    refine pure_ (i := 3) (N := some 20) (v := ?_) (a' := ?_) #[false, true, true, true, false, false, false, false, false, false, false, false, false, false, false, false, false, false, false, false, false] rfl rfl (by kernel_rfl) (fun _ _ _ h => h) (Or.inl ⟨by rfl, ?_⟩) ?_ ?_
    rotate_left
    ·intro w'
     go_simp
     with_reducible rfl
    rotate_left
    ·simp only [Act.put, List.setIfInBounds_toArray, List.set_cons_zero, List.set_cons_succ, i64_w, i32_w]
     rfl
    refine take_ (i := 0) (N := some 17) (v := ?_) (a' := ?_) #[true, true, true, true, false, false, false, false, false, false, false, false, false, false, false, false, false, false, false, false, false] rfl rfl (by kernel_rfl) (fun _ _ _ h => h) (Or.inl ⟨by rfl, ?_⟩) hHeld ?_ ?_
    rotate_left
    ·rintro w' ⟨s0, s1, s2, s3, s4, s5⟩
     go_simp
     with_reducible rfl
    rotate_left
    ·simp only [Act.put, List.setIfInBounds_toArray, List.set_cons_zero, List.set_cons_succ, i64_w, i32_w]
     rfl
    refine take_ (i := 4) (N := some 21) (v := ?_) (a' := ?_) #[true, true, true, true, true, false, false, false, false, false, false, false, false, false, false, false, false, false, false, false, false] rfl rfl (by kernel_rfl) (fun _ _ _ h => h) (Or.inl ⟨by rfl, ?_⟩) hHeld ?_ ?_
    rotate_left
    ·rintro w' ⟨s0, s1, s2, s3, s4, s5⟩
     go_simp
     with_reducible rfl
    rotate_left
    ·simp only [Act.put, List.setIfInBounds_toArray, List.set_cons_zero, List.set_cons_succ, i64_w, i32_w]
     rfl
    refine pure_ (i := 5) (N := some 22) (v := ?_) (a' := ?_) #[true, true, true, true, true, true, false, false, false, false, false, false, false, false, false, false, false, false, false, false, false] rfl rfl (by kernel_rfl) (fun _ _ _ h => h) (Or.inl ⟨by rfl, ?_⟩) ?_ ?_
    rotate_left
    ·intro w'
     go_simp
     with_reducible rfl
    rotate_left
    ·simp only [Act.put, List.setIfInBounds_toArray, List.set_cons_zero, List.set_cons_succ, i64_w, i32_w]
     rfl
    refine pure_ (i := 6) (N := some 23) (v := ?_) (a' := ?_) #[true, true, true, true, true, true, true, false, false, false, false, false, false, false, false, false, false, false, false, false, false] rfl rfl (by kernel_rfl) (fun _ _ _ h => h) (Or.inl ⟨by rfl, ?_⟩) ?_ ?_
    rotate_left
    ·intro w'
     go_simp
     with_reducible rfl
    rotate_left
    ·simp only [Act.put, List.setIfInBounds_toArray, List.set_cons_zero, List.set_cons_succ, i64_w, i32_w]
     rfl
    refine pure_ (i := 7) (N := some 24) (v := ?_) (a' := ?_) #[true, true, true, true, true, true, true, true, false, false, false, false, false, false, false, false, false, false, false, false, false] rfl rfl (by kernel_rfl) (fun _ _ _ h => h) (Or.inl ⟨by rfl, ?_⟩) ?_ ?_
    rotate_left
    ·intro w'
     go_simp
     with_reducible rfl
    rotate_left
    ·simp only [Act.put, List.setIfInBounds_toArray, List.set_cons_zero, List.set_cons_succ, i64_w, i32_w]
     rfl
    refine pure_ (i := 8) (N := some 25) (v := ?_) (a' := ?_) #[true, true, true, true, true, true, true, true, true, false, false, false, false, false, false, false, false, false, false, false, false] rfl rfl (by kernel_rfl) (fun _ _ _ h => h) (Or.inl ⟨by rfl, ?_⟩) ?_ ?_
    rotate_left
    ·intro w'
     go_simp
     with_reducible rfl
    rotate_left
    ·simp only [Act.put, List.setIfInBounds_toArray, List.set_cons_zero, List.set_cons_succ, i64_w, i32_w]
     rfl
    refine take_ (i := 9) (N := some 26) (v := ?_) (a' := ?_) #[true, true, true, true, true, true, true, true, true, true, false, false, false, false, false, false, false, false, false, false, false] rfl rfl (by kernel_rfl) (fun _ _ _ h => h) (Or.inl ⟨by rfl, ?_⟩) hHeld ?_ ?_
    rotate_left
    ·rintro w' ⟨s0, s1, s2, s3, s4, s5⟩
     go_simp
     with_reducible rfl
    rotate_left
    ·simp only [Act.put, List.setIfInBounds_toArray, List.set_cons_zero, List.set_cons_succ, i64_w, i32_w]
     rfl
    refine pure_ (i := 10) (N := some 27) (v := ?_) (a' := ?_) #[true, true, true, true, true, true, true, true, true, true, true, false, false, false, false, false, false, false, false, false, false] rfl rfl (by kernel_rfl) (fun _ _ _ h => h) (Or.inl ⟨by rfl, ?_⟩) ?_ ?_
    rotate_left
    ·intro w'
     go_simp
     with_reducible rfl
    rotate_left
    ·simp only [Act.put, List.setIfInBounds_toArray, List.set_cons_zero, List.set_cons_succ, i64_w, i32_w]
     rfl
    refine pure_ (i := 11) (N := some 28) (v := ?_) (a' := ?_) #[true, true, true, true, true, true, true, true, true, true, true, true, false, false, false, false, false, false, false, false, false] rfl rfl (by kernel_rfl) (fun _ _ _ h => h) (Or.inl ⟨by rfl, ?_⟩) ?_ ?_
    rotate_left
    ·intro w'
     go_simp
     with_reducible rfl
    rotate_left
    ·simp only [Act.put, List.setIfInBounds_toArray, List.set_cons_zero, List.set_cons_succ, i64_w, i32_w]
     rfl
    refine pure_ (i := 12) (N := some 29) (v := ?_) (a' := ?_) #[true, true, true, true, true, true, true, true, true, true, true, true, true, false, false, false, false, false, false, false, false] rfl rfl (by kernel_rfl) (fun _ _ _ h => h) (Or.inl ⟨by rfl, ?_⟩) ?_ ?_
    rotate_left
    ·intro w'
     go_simp
     with_reducible rfl
    rotate_left
    ·simp only [Act.put, List.setIfInBounds_toArray, List.set_cons_zero, List.set_cons_succ, i64_w, i32_w]
     rfl
    refine pure_ (i := 13) (N := some 30) (v := ?_) (a' := ?_) #[true, true, true, true, true, true, true, true, true, true, true, true, true, true, false, false, false, false, false, false, false] rfl rfl (by kernel_rfl) (fun _ _ _ h => h) (Or.inl ⟨by rfl, ?_⟩) ?_ ?_
    rotate_left
    ·intro w'
     go_simp
     with_reducible rfl
    rotate_left
    ·simp only [Act.put, List.setIfInBounds_toArray, List.set_cons_zero, List.set_cons_succ, i64_w, i32_w]
     rfl
    refine pure_ (i := 16) (N := some 33) (v := ?_) (a' := ?_) #[true, true, true, true, true, true, true, true, true, true, true, true, true, true, false, false, true, false, false, false, false] rfl rfl (by kernel_rfl) (fun _ _ _ h => h) (Or.inl ⟨by rfl, ?_⟩) ?_ ?_
    rotate_left
    ·intro w'
     go_simp
     with_reducible rfl
    rotate_left
    ·simp only [Act.put, List.setIfInBounds_toArray, List.set_cons_zero, List.set_cons_succ, i64_w, i32_w]
     rfl
    refine take_ (i := 14) (N := some 31) (v := ?_) (a' := ?_) #[true, true, true, true, true, true, true, true, true, true, true, true, true, true, true, false, true, false, false, false, false] rfl rfl (by kernel_rfl) (fun _ _ _ h => h) (Or.inl ⟨by rfl, ?_⟩) hHeld ?_ ?_
    rotate_left
    ·rintro w' ⟨s0, s1, s2, s3, s4, s5⟩
     go_simp
     with_reducible rfl
    rotate_left
    ·simp only [Act.put, List.setIfInBounds_toArray, List.set_cons_zero, List.set_cons_succ, i64_w, i32_w]
     rfl
    refine one_ (i := 15) (N := some 32) #[true, true, true, true, true, true, true, true, true, true, true, true, true, true, true, true, true, false, false, false, false] rfl rfl (by kernel_rfl) (by decide) (fun K hK => ?_)
    refine goes_ Tryz.func27 (by kernel_rfl) rfl #[.agg #[.string x1, .string x2, .string x3, .slice A3 x4.length c3]] (by rfl) rfl rfl (by (try simp only [List.map_toArray, List.map_cons, List.map_nil]); (rfl)) ?_
    refine (hText w6 (by rw [← hwd]; exact below_drew1 (Below.refl _ _))).mono ?_
    rintro e w7 ⟨rfl, hb7⟩
    refine ⟨_, rfl, ?_⟩
    have hb57 : Below w5.heap.size w5 w7 := below_step (by rw [← hwd]; exact below_drew1 (Below.refl _ _)) hb7
    refine hK.out _ _ ⟨cell_keeps f0 hb57, cell_keeps f1 hb57, cell_keeps f2 hb57, cell_keeps f3 hb57, cell_keeps p0 hb57, cell_keeps p1 hb57⟩ (fun hHeld => ?_)
    clear hK K
    refine norm_ (a' := ?_) ?_ ?_
    rotate_left
    ·show Act.put _ (some 32) _ = _
     simp only [Act.put, List.setIfInBounds_toArray, List.set_cons_zero, List.set_cons_succ, i64_w, i32_w]
     rfl
    have hr7 := blk_below HR5b.out hb57
    have u0 : w7.cell? ⟨w.heap.size, 0, none⟩ = some (.string ⟨#[]⟩) := blk_cell hr7 0
    have u1 : w7.cell? ⟨w.heap.size, 1, none⟩ = some (.string ⟨#[]⟩) := blk_cell hr7 1
    have u2 : w7.cell? ⟨w.heap.size, 2, none⟩ = some (.string ⟨#[]⟩) := blk_cell hr7 2
    have u3 : w7.cell? ⟨w.heap.size, 3, none⟩ = some (.slice none 0 0) := blk_cell hr7 3
    have y10 := Lib.frozen_of_heap hr7 0
    have y11 := Lib.frozen_of_heap hr7 1
    have y12 := Lib.frozen_of_heap hr7 2
    have y13 := Lib.frozen_of_heap hr7 3
    refine pure_ (i := 17) (N := some 34) (v := ?_) (a' := ?_) #[true, true, true, true, true, true, true, true, true, true, true, true, true, true, true, true, true, true, false, false, false] rfl rfl (by kernel_rfl) (fun _ _ _ h => h) (Or.inl ⟨by rfl, ?_⟩) ?_ ?_
    rotate_left
    ·intro w'
     go_simp
     with_reducible rfl
    rotate_left
    ·simp only [Act.put, List.setIfInBounds_toArray, List.set_cons_zero, List.set_cons_succ, i64_w, i32_w]
     rfl
    refine pure_ (i := 18) (N := some 35) (v := ?_) (a' := ?_) #[true, true, true, true, true, true, true, true, true, true, true, true, true, true, true, true, true, true, true, false, false] rfl rfl (by kernel_rfl) (fun _ _ _ h => h) (Or.inl ⟨by rfl, ?_⟩) ?_ ?_
    rotate_left
    ·intro w'
     go_simp
     with_reducible rfl
    rotate_left
    ·simp only [Act.put, List.setIfInBounds_toArray, List.set_cons_zero, List.set_cons_succ, i64_w, i32_w]
     rfl
    refine last_ (i := 19) (N := none) #[true, true, true, true, true, true, true, true, true, true, true, true, true, true, true, true, true, true, true, true, false] rfl rfl (by kernel_rfl) (by decide) (fun K hK => ?_)
    refine skip_ (w1 := ?_) (by rfl) rfl ?_ ?_
    rotate_left
    ·go_simp
     rfl
    refine hK.out _ _ ?_
    clear hK K
    refine pure_ (i := 20) (N := some 3) (v := ?_) (a' := ?_) #[true, true, true, true, true, true, true, true, true, true, true, true, true, true, true, true, true, true, true, true, true] rfl rfl (by kernel_rfl) (fun _ _ _ h => h) (Or.inl ⟨by rfl, ?_⟩) ?_ ?_
    rotate_left
    ·intro w'
     go_simp
     with_reducible rfl
    rotate_left
    ·simp only [Act.put, List.setIfInBounds_toArray, List.set_cons_zero, List.set_cons_succ, i64_w, i32_w]
     rfl
    refine done_ (by kernel_rfl) ?_
    have hR6 := Kd.R_below HR5.out hb57
    have hB6 := below_step HB5.out hb57
    go_wp2
    refine bodyPost_ret (results_ct rfl _ _ w.heap.size 33 #[.string x1, .string x2, .string x3, .slice A3 x4.length c3] (0, 0) _ rfl (four_blk _ _ _ _ hr7) Tryz.underlying33 rfl (by kernel_rfl)) rfl ?_
    exact ⟨_, rfl, four_R _ _ _ _ hR6 hwg (by omega), four_below _ _ _ _ hB6 (Nat.le_refl _)⟩
   ·rw [if_neg hsm] at h; cases h
  ·rw [if_neg hok] at h
   injection h with h; injection h with e1 h; injection h with e2 h; injection h with e3 h; injection h with e4 e5
   subst e1 e2 e3 e4 e5
   cases ok with
   | false =>
    refine start_ (n := 21) (S := fun w' => w'.cell? ⟨g4, 0, none⟩ = some (.string x1) ∧ w'.cell? ⟨g4, 1, none⟩ = some (.string x2) ∧ w'.cell? ⟨g4, 2, none⟩ = some (.string x3) ∧ w'.cell? ⟨g4, 3, none⟩ = some (.slice A3 x4.length c3) ∧ w'.cell? ⟨g3, 0, none⟩ = some (.slice Ap ps.length cp) ∧ w'.cell? ⟨g3, 1, none⟩ = some (.bool false)) (ds := [19]) #[false, false, false, false, false, false, false, false, false, false, false, false, false, false, false, false, false, false, false, false, false] (by kernel_rfl) rfl rfl ⟨f0, f1, f2, f3, p0, p1⟩ (fun hHeld => ?_)
    have t0 := (World.cell?_drew w5 ⟨w.heap.size, 0, none⟩).trans s0
    have t1 := (World.cell?_drew w5 ⟨w.heap.size, 1, none⟩).trans s1
    have t2 := (World.cell?_drew w5 ⟨w.heap.size, 2, none⟩).trans s2
    have t3 := (World.cell?_drew w5 ⟨w.heap.size, 3, none⟩).trans s3
    have y0 : w5.drew.frozen? ⟨w.heap.size, 0, none⟩ = false := z0
    have y1 : w5.drew.frozen? ⟨w.heap.size, 1, none⟩ = false := z1
    have y2 : w5.drew.frozen? ⟨w.heap.size, 2, none⟩ = false := z2
    have y3 : w5.drew.frozen? ⟨w.heap.size, 3, none⟩ = false := z3
    generalize hwd : w5.drew = w6 at hHeld t0 t1 t2 t3 y0 y1 y2 y3 ⊢
    refine pure_ (i := 1) (N := some 18) (v := ?_) (a' := ?_) #[false, true, false, false, false, false, false, false, false, false, false, false, false, false, false, false, false, false, false, false, false] rfl rfl (by kernel_rfl) (fun _ _ _ h => h) (Or.inl ⟨by rfl, ?_⟩) ?_ ?_
    rotate_left
    ·intro w'
     go_simp
     with_reducible rfl
    rotate_left
    ·simp only [Act.put, List.setIfInBounds_toArray, List.set_cons_zero, List.set_cons_succ, i64_w, i32_w]
     rfl
    refine pure_ (i := 2) (N := some 19) (v := ?_) (a' := ?_) #[false, true, true, false, false, false, false, false, false, false, false, false, false, false, false, false, false, false, false, false, false] rfl rfl (by kernel_rfl) (fun _ _ _ h => h) (Or.inl ⟨by rfl, ?_⟩) ?_ ?_
    rotate_left
    ·intro w'
     go_simp
     with_reducible rfl
    rotate_left
    ·simp only [Act.put, List.setIfInBounds_toArray, List.set_cons_zero, List.set_cons_succ, i64_w, i32_w]
     rfl
    refine pure_ (i := 3) (N := some 20) (v := ?_) (a' := ?_) #[false, true, true, true, false, false, false, false, false, false, false, false, false, false, false, false, false, false, false, false, false] rfl rfl (by kernel_rfl) (fun _ _ _ h => h) (Or.inl ⟨by rfl, ?_⟩) ?_ ?_
    rotate_left
    ·intro w'
     go_simp
     with_reducible rfl
    rotate_left
    ·simp only [Act.put, List.setIfInBounds_toArray, List.set_cons_zero, List.set_cons_succ, i64_w, i32_w]
     rfl
    refine take_ (i := 0) (N := some 17) (v := ?_) (a' := ?_) #[true, true, true, true, false, false, false, false, false, false, false, false, false, false, false, false, false, false, false, false, false] rfl rfl (by kernel_rfl) (fun _ _ _ h => h) (Or.inl ⟨by rfl, ?_⟩) hHeld ?_ ?_
    rotate_left
    ·rintro w' ⟨s0, s1, s2, s3, s4, s5⟩
     go_simp
     with_reducible rfl
    rotate_left
    ·simp only [Act.put, List.setIfInBounds_toArray, List.set_cons_zero, List.set_cons_succ, i64_w, i32_w]
     rfl
    refine take_ (i := 4) (N := some 21) (v := ?_) (a' := ?_) #[true, true, true, true, true, false, false, false, false, false, false, false, false, false, false, false, false, false, false, false, false] rfl rfl (by kernel_rfl) (fun _ _ _ h => h) (Or.inl ⟨by rfl, ?_⟩) hHeld ?_ ?_
    rotate_left
    ·rintro w' ⟨s0, s1, s2, s3, s4, s5⟩
     go_simp
     with_reducible rfl
    rotate_left
    ·simp only [Act.put, List.setIfInBounds_toArray, List.set_cons_zero, List.set_cons_succ, i64_w, i32_w]
     rfl
    refine pure_ (i := 5) (N := some 22) (v := ?_) (a' := ?_) #[true, true, true, true, true, true, false, false, false, false, false, false, false, false, false, false, false, false, false, false, false] rfl rfl (by kernel_rfl) (fun _ _ _ h => h) (Or.inl ⟨by rfl, ?_⟩) ?_ ?_
    rotate_left
    ·intro w'
     go_simp
     with_reducible rfl
    rotate_left
    ·simp only [Act.put, List.setIfInBounds_toArray, List.set_cons_zero, List.set_cons_succ, i64_w, i32_w]
     rfl
    refine pure_ (i := 6) (N := some 23) (v := undef) (a' := ?_) #[true, true, true, true, true, true, true, false, false, false, false, false, false, false, false, false, false, false, false, false, false] rfl rfl (by kernel_rfl) (fun _ _ _ h => h) (Or.inr ⟨by rfl, rfl⟩) ?_ ?_
    rotate_left
    ·simp only [Act.put, List.setIfInBounds_toArray, List.set_cons_zero, List.set_cons_succ, i64_w, i32_w]
     rfl
    refine pure_ (i := 7) (N := some 24) (v := undef) (a' := ?_) #[true, true, true, true, true, true, true, true, false, false, false, false, false, false, false, false, false, false, false, false, false] rfl rfl (by kernel_rfl) (fun _ _ _ h => h) (Or.inr ⟨by rfl, rfl⟩) ?_ ?_
    rotate_left
    ·simp only [Act.put, List.setIfInBounds_toArray, List.set_cons_zero, List.set_cons_succ, i64_w, i32_w]
     rfl
    refine pure_ (i := 8) (N := some 25) (v := undef) (a' := ?_) #[true, true, true, true, true, true, true, true, true, false, false, false, false, false, false, false, false, false, false, false, false] rfl rfl (by kernel_rfl) (fun _ _ _ h => h) (Or.inr ⟨by rfl, rfl⟩) ?_ ?_
    rotate_left
    ·simp only [Act.put, List.setIfInBounds_toArray, List.set_cons_zero, List.set_cons_succ, i64_w, i32_w]
     rfl
    refine pure_ (i := 9) (N := some 26) (v := undef) (a' := ?_) #[true, true, true, true, true, true, true, true, true, true, false, false, false, false, false, false, false, false, false, false, false] rfl rfl (by kernel_rfl) (fun _ _ _ h => h) (Or.inr ⟨by rfl, rfl⟩) ?_ ?_
    rotate_left
    ·simp only [Act.put, List.setIfInBounds_toArray, List.set_cons_zero, List.set_cons_succ, i64_w, i32_w]
     rfl
    refine pure_ (i := 10) (N := some 27) (v := undef) (a' := ?_) #[true, true, true, true, true, true, true, true, true, true, true, false, false, false, false, false, false, false, false, false, false] rfl rfl (by kernel_rfl) (fun _ _ _ h => h) (Or.inr ⟨by rfl, rfl⟩) ?_ ?_
    rotate_left
    ·simp only [Act.put, List.setIfInBounds_toArray, List.set_cons_zero, List.set_cons_succ, i64_w, i32_w]
     rfl
    refine pure_ (i := 11) (N := some 28) (v := undef) (a' := ?_) #[true, true, true, true, true, true, true, true, true, true, true, true, false, false, false, false, false, false, false, false, false] rfl rfl (by kernel_rfl) (fun _ _ _ h => h) (Or.inr ⟨by rfl, rfl⟩) ?_ ?_
    rotate_left
    ·simp only [Act.put, List.setIfInBounds_toArray, List.set_cons_zero, List.set_cons_succ, i64_w, i32_w]
     rfl
    refine pure_ (i := 12) (N := some 29) (v := ?_) (a' := ?_) #[true, true, true, true, true, true, true, true, true, true, true, true, true, false, false, false, false, false, false, false, false] rfl rfl (by kernel_rfl) (fun _ _ _ h => h) (Or.inl ⟨by rfl, ?_⟩) ?_ ?_
    rotate_left
    ·intro w'
     go_simp
     with_reducible rfl
    rotate_left
    ·simp only [Act.put, List.setIfInBounds_toArray, List.set_cons_zero, List.set_cons_succ, i64_w, i32_w]
     rfl
    refine pure_ (i := 13) (N := some 30) (v := ?_) (a' := ?_) #[true, true, true, true, true, true, true, true, true, true, true, true, true, true, false, false, false, false, false, false, false] rfl rfl (by kernel_rfl) (fun _ _ _ h => h) (Or.inl ⟨by rfl, ?_⟩) ?_ ?_
    rotate_left
    ·intro w'
     go_simp
     with_reducible rfl
    rotate_left
    ·simp only [Act.put, List.setIfInBounds_toArray, List.set_cons_zero, List.set_cons_succ, i64_w, i32_w]
     rfl
    refine pure_ (i := 14) (N := some 31) (v := undef) (a' := ?_) #[true, true, true, true, true, true, true, true, true, true, true, true, true, true, true, false, false, false, false, false, false] rfl rfl (by kernel_rfl) (fun _ _ _ h => h) (Or.inr ⟨by rfl, rfl⟩) ?_ ?_
    rotate_left
    ·simp only [Act.put, List.setIfInBounds_toArray, List.set_cons_zero, List.set_cons_succ, i64_w, i32_w]
     rfl
    refine pure_ (i := 15) (N := some 32) (v := undef) (a' := ?_) #[true, true, true, true, true, true, true, true, true, true, true, true, true, true, true, true, false, false, false, false, false] rfl rfl (by kernel_rfl) (fun _ _ _ h => h) (Or.inr ⟨by rfl, rfl⟩) ?_ ?_
    rotate_left
    ·simp only [Act.put, List.setIfInBounds_toArray, List.set_cons_zero, List.set_cons_succ, i64_w, i32_w]
     rfl
    refine pure_ (i := 16) (N := some 33) (v := undef) (a' := ?_) #[true, true, true, true, true, true, true, true, true, true, true, true, true, true, true, true, true, false, false, false, false] rfl rfl (by kernel_rfl) (fun _ _ _ h => h) (Or.inr ⟨by rfl, rfl⟩) ?_ ?_
    rotate_left
    ·simp only [Act.put, List.setIfInBounds_toArray, List.set_cons_zero, List.set_cons_succ, i64_w, i32_w]
     rfl
    refine pure_ (i := 17) (N := some 34) (v := undef) (a' := ?_) #[true, true, true, true, true, true, true, true, true, true, true, true, true, true, true, true, true, true, false, false, false] rfl rfl (by kernel_rfl) (fun _ _ _ h => h) (Or.inr ⟨by rfl, rfl⟩) ?_ ?_
    rotate_left
    ·simp only [Act.put, List.setIfInBounds_toArray, List.set_cons_zero, List.set_cons_succ, i64_w, i32_w]
     rfl
    refine pure_ (i := 18) (N := some 35) (v := ?_) (a' := ?_) #[true, true, true, true, true, true, true, true, true, true, true, true, true, true, true, true, true, true, true, false, false] rfl rfl (by kernel_rfl) (fun _ _ _ h => h) (Or.inl ⟨by rfl, ?_⟩) ?_ ?_
    rotate_left
    ·intro w'
     go_simp
     with_reducible rfl
    rotate_left
    ·simp only [Act.put, List.setIfInBounds_toArray, List.set_cons_zero, List.set_cons_succ, i64_w, i32_w]
     rfl
    refine last_ (i := 19) (N := none) #[true, true, true, true, true, true, true, true, true, true, true, true, true, true, true, true, true, true, true, true, false] rfl rfl (by kernel_rfl) (by decide) (fun K hK => ?_)
    refine skip_ (w1 := ?_) (by rfl) rfl ?_ ?_
    rotate_left
    ·go_simp
     rfl
    refine hK.out _ _ ?_
    clear hK K
    refine pure_ (i := 20) (N := some 3) (v := ?_) (a' := ?_) #[true, true, true, true, true, true, true, true, true, true, true, true, true, true, true, true, true, true, true, true, true] rfl rfl (by kernel_rfl) (fun _ _ _ h => h) (Or.inl ⟨by rfl, ?_⟩) ?_ ?_
    rotate_left
    ·intro w'
     go_simp
     with_reducible rfl
    rotate_left
    ·simp only [Act.put, List.setIfInBounds_toArray, List.set_cons_zero, List.set_cons_succ, i64_w, i32_w]
     rfl
    refine done_ (by kernel_rfl) ?_
    have hr6 : w6.heap[w.heap.size]? = some (.cells #[.string ⟨#[]⟩, .string ⟨#[]⟩, .string ⟨#[]⟩, .slice none 0 0] 33 (0, 0)) := by rw [← hwd]; exact blk_drew HR5b.out
    have hR6 : Kd.R k33 33 w6 base (fun _ => True) (.slice A3 x4.length c3) x4 := by rw [← hwd]; exact Kd.R_drew HR5.out
    have hB6 : Below w.heap.size w w6 := by rw [← hwd]; exact HB5.out.drew
    go_wp2
    refine bodyPost_ret (results_ct rfl _ _ w.heap.size 33 #[.string x1, .string x2, .string x3, .slice A3 x4.length c3] (0, 0) _ rfl (four_blk _ _ _ _ hr6) Tryz.underlying33 rfl (by kernel_rfl)) rfl ?_
    exact ⟨_, rfl, four_R _ _ _ _ hR6 hwg (by omega), four_below _ _ _ _ hB6 (Nat.le_refl _)⟩
   | true =>
    have hps : ps ≠ [] := fun e => hok ⟨rfl, e⟩
    have hd : ((ps.length : Int) == 0) = false := by simpa using hps
    refine start_ (n := 21) (S := fun w' => w'.cell? ⟨g4, 0, none⟩ = some (.string x1) ∧ w'.cell? ⟨g4, 1, none⟩ = some (.string x2) ∧ w'.cell? ⟨g4, 2, none⟩ = some (.string x3) ∧ w'.cell? ⟨g4, 3, none⟩ = some (.slice A3 x4.length c3) ∧ w'.cell? ⟨g3, 0, none⟩ = some (.slice Ap ps.length cp) ∧ w'.cell? ⟨g3, 1, none⟩ = some (.bool true)) (ds := [19]) #[false, false, false, false, false, false, false, false, false, false, false, false, false, false, false, false, false, false, false, false, false] (by kernel_rfl) rfl rfl ⟨f0, f1, f2, f3, p0, p1⟩ (fun hHeld => ?_)
    have t0 := (World.cell?_drew w5 ⟨w.heap.size, 0, none⟩).trans s0
    have t1 := (World.cell?_drew w5 ⟨w.heap.size, 1, none⟩).trans s1
    have t2 := (World.cell?_drew w5 ⟨w.heap.size, 2, none⟩).trans s2
    have t3 := (World.cell?_drew w5 ⟨w.heap.size, 3, none⟩).trans s3
    have y0 : w5.drew.frozen? ⟨w.heap.size, 0, none⟩ = false := z0
    have y1 : w5.drew.frozen? ⟨w.heap.size, 1, none⟩ = false := z1
    have y2 : w5.drew.frozen? ⟨w.heap.size, 2, none⟩ = false := z2
    have y3 : w5.drew.frozen? ⟨w.heap.size, 3, none⟩ = false := z3
    generalize hwd : w5.drew = w6 at hHeld t0 t1 t2 t3 y0 y1 y2 y3 ⊢
    refine pure_ (i := 1) (N := some 18) (v := ?_) (a' := ?_) #[false, true, false, false, false, false, false, false, false, false, false, false, false, false, false, false, false, false, false, false, false] rfl rfl (by kernel_rfl) (fun _ _ _ h => h) (Or.inl ⟨by rfl, ?_⟩) ?_ ?_
    rotate_left
    ·intro w'
     go_simp
     with_reducible rfl
    rotate_left
    ·simp only [Act.put, List.setIfInBounds_toArray, List.set_cons_zero, List.set_cons_succ, i64_w, i32_w]
     rfl
    refine pure_ (i := 2) (N := some 19) (v := ?_) (a' := ?_) #[false, true, true, false, false, false, false, false, false, false, false, false, false, false, false, false, false, false, false, false, false] rfl rfl (by kernel_rfl) (fun _ _ _ h => h) (Or.inl ⟨by rfl, ?_⟩) ?_ ?_
    rotate_left
    ·intro w'
     go_simp
     with_reducible rfl
    rotate_left
    ·simp only [Act.put, List.setIfInBounds_toArray, List.set_cons_zero, List.set_cons_succ, i64_w, i32_w]
     rfl
    refine pure_ (i := 3) (N := some 20) (v := ?_) (a' := ?_) #[false, true, true, true, false, false, false, false, false, false, false, false, false, false, false, false, false, false, false, false, false] rfl rfl (by kernel_rfl) (fun _ _ _ h => h) (Or.inl ⟨by rfl, ?_⟩) ?_ ?_
    rotate_left
    ·intro w'
     go_simp
     with_reducible rfl
    rotate_left
    ·simp only [Act.put, List.setIfInBounds_toArray, List.set_cons_zero, List.set_cons_succ, i64_w, i32_w]
     rfl
    refine take_ (i := 0) (N := some 17) (v := ?_) (a' := ?_) #[true, true, true, true, false, false, false, false, false, false, false, false, false, false, false, false, false, false, false, false, false] rfl rfl (by kernel_rfl) (fun _ _ _ h => h) (Or.inl ⟨by rfl, ?_⟩) hHeld ?_ ?_
    rotate_left
    ·rintro w' ⟨s0, s1, s2, s3, s4, s5⟩
     go_simp
     with_reducible rfl
    rotate_left
    ·simp only [Act.put, List.setIfInBounds_toArray, List.set_cons_zero, List.set_cons_succ, i64_w, i32_w]
     rfl
    refine take_ (i := 4) (N := some 21) (v := ?_) (a' := ?_) #[true, true, true, true, true, false, false, false, false, false, false, false, false, false, false, false, false, false, false, false, false] rfl rfl (by kernel_rfl) (fun _ _ _ h => h) (Or.inl ⟨by rfl, ?_⟩) hHeld ?_ ?_
    rotate_left
    ·rintro w' ⟨s0, s1, s2, s3, s4, s5⟩
     go_simp
     with_reducible rfl
    rotate_left
    ·simp only [Act.put, List.setIfInBounds_toArray, List.set_cons_zero, List.set_cons_succ, i64_w, i32_w]
     rfl
    refine pure_ (i := 5) (N := some 22) (v := ?_) (a' := ?_) #[true, true, true, true, true, true, false, false, false, false, false, false, false, false, false, false, false, false, false, false, false] rfl rfl (by kernel_rfl) (fun _ _ _ h => h) (Or.inl ⟨by rfl, ?_⟩) ?_ ?_
    rotate_left
    ·intro w'
     go_simp
     with_reducible rfl
    rotate_left
    ·simp only [Act.put, List.setIfInBounds_toArray, List.set_cons_zero, List.set_cons_succ, i64_w, i32_w]
     rfl
    refine pure_ (i := 6) (N := some 23) (v := ?_) (a' := ?_) #[true, true, true, true, true, true, true, false, false, false, false, false, false, false, false, false, false, false, false, false, false] rfl rfl (by kernel_rfl) (fun _ _ _ h => h) (Or.inl ⟨by rfl, ?_⟩) ?_ ?_
    rotate_left
    ·intro w'
     go_simp
     with_reducible rfl
    rotate_left
    ·simp only [Act.put, List.setIfInBounds_toArray, List.set_cons_zero, List.set_cons_succ, i64_w, i32_w]
     rfl
    refine pure_ (i := 7) (N := some 24) (v := ?_) (a' := ?_) #[true, true, true, true, true, true, true, true, false, false, false, false, false, false, false, false, false, false, false, false, false] rfl rfl (by kernel_rfl) (fun _ _ _ h => h) (Or.inl ⟨by rfl, ?_⟩) ?_ ?_
    rotate_left
    ·intro w'
     go_simp
     with_reducible rfl
    rotate_left
    ·simp only [Act.put, List.setIfInBounds_toArray, List.set_cons_zero, List.set_cons_succ, i64_w, i32_w]
     rfl
    refine pure_ (i := 8) (N := some 25) (v := ?_) (a' := ?_) #[true, true, true, true, true, true, true, true, true, false, false, false, false, false, false, false, false, false, false, false, false] rfl rfl (by kernel_rfl) (fun _ _ _ h => h) (Or.inl ⟨by rfl, ?_⟩) ?_ ?_
    rotate_left
    ·intro w'
     go_simp
     with_reducible rfl
    rotate_left
    ·simp only [Act.put, List.setIfInBounds_toArray, List.set_cons_zero, List.set_cons_succ, i64_w, i32_w]
     rfl
    refine take_ (i := 9) (N := some 26) (v := ?_) (a' := ?_) #[true, true, true, true, true, true, true, true, true, true, false, false, false, false, false, false, false, false, false, false, false] rfl rfl (by kernel_rfl) (fun _ _ _ h => h) (Or.inl ⟨by rfl, ?_⟩) hHeld ?_ ?_
    rotate_left
    ·rintro w' ⟨s0, s1, s2, s3, s4, s5⟩
     go_simp
     with_reducible rfl
    rotate_left
    ·simp only [Act.put, List.setIfInBounds_toArray, List.set_cons_zero, List.set_cons_succ, i64_w, i32_w]
     rfl
    refine pure_ (i := 10) (N := some 27) (v := ?_) (a' := ?_) #[true, true, true, true, true, true, true, true, true, true, true, false, false, false, false, false, false, false, false, false, false] rfl rfl (by kernel_rfl) (fun _ _ _ h => h) (Or.inl ⟨by rfl, ?_⟩) ?_ ?_
    rotate_left
    ·intro w'
     go_simp
     with_reducible rfl
    rotate_left
    ·simp only [Act.put, List.setIfInBounds_toArray, List.set_cons_zero, List.set_cons_succ, i64_w, i32_w]
     rfl
    refine pure_ (i := 11) (N := some 28) (v := ?_) (a' := ?_) #[true, true, true, true, true, true, true, true, true, true, true, true, false, false, false, false, false, false, false, false, false] rfl rfl (by kernel_rfl) (fun _ _ _ h => h) (Or.inl ⟨by rfl, ?_⟩) ?_ ?_
    rotate_left
    ·intro w'
     go_simp
     with_reducible rfl
    rotate_left
    ·simp only [Act.put, List.setIfInBounds_toArray, List.set_cons_zero, List.set_cons_succ, i64_w, i32_w]
     rfl
    refine pure_ (i := 12) (N := some 29) (v := ?_) (a' := ?_) #[true, true, true, true, true, true, true, true, true, true, true, true, true, false, false, false, false, false, false, false, false] rfl rfl (by kernel_rfl) (fun _ _ _ h => h) (Or.inl ⟨by rfl, ?_⟩) ?_ ?_
    rotate_left
    ·intro w'
     go_simp
     with_reducible rfl
    rotate_left
    ·simp only [Act.put, List.setIfInBounds_toArray, List.set_cons_zero, List.set_cons_succ, i64_w, i32_w]
     rfl
    refine pure_ (i := 13) (N := some 30) (v := ?_) (a' := ?_) #[true, true, true, true, true, true, true, true, true, true, true, true, true, true, false, false, false, false, false, false, false] rfl rfl (by kernel_rfl) (fun _ _ _ h => h) (Or.inl ⟨by rfl, ?_⟩) ?_ ?_
    rotate_left
    ·intro w'
     go_simp
     with_reducible rfl
    rotate_left
    ·simp only [Act.put, List.setIfInBounds_toArray, List.set_cons_zero, List.set_cons_succ, i64_w, i32_w]
     rfl
    refine pure_ (i := 14) (N := some 31) (v := undef) (a' := ?_) #[true, true, true, true, true, true, true, true, true, true, true, true, true, true, true, false, false, false, false, false, false] rfl rfl (by kernel_rfl) (fun _ _ _ h => h) (Or.inr ⟨by rfl, rfl⟩) ?_ ?_
    rotate_left
    ·simp only [Act.put, List.setIfInBounds_toArray, List.set_cons_zero, List.set_cons_succ, i64_w, i32_w]
     rfl
    refine pure_ (i := 15) (N := some 32) (v := undef) (a' := ?_) #[true, true, true, true, true, true, true, true, true, true, true, true, true, true, true, true, false, false, false, false, false] rfl rfl (by kernel_rfl) (fun _ _ _ h => h) (Or.inr ⟨by rfl, rfl⟩) ?_ ?_
    rotate_left
    ·simp only [Act.put, List.setIfInBounds_toArray, List.set_cons_zero, List.set_cons_succ, i64_w, i32_w]
     rfl
    refine pure_ (i := 16) (N := some 33) (v := undef) (a' := ?_) #[true, true, true, true, true, true, true, true, true, true, true, true, true, true, true, true, true, false, false, false, false] rfl rfl (by kernel_rfl) (fun _ _ _ h => h) (Or.inr ⟨by rfl, rfl⟩) ?_ ?_
    rotate_left
    ·simp only [Act.put, List.setIfInBounds_toArray, List.set_cons_zero, List.set_cons_succ, i64_w, i32_w]
     rfl
    refine pure_ (i := 17) (N := some 34) (v := undef) (a' := ?_) #[true, true, true, true, true, true, true, true, true, true, true, true, true, true, true, true, true, true, false, false, false] rfl rfl (by kernel_rfl) (fun _ _ _ h => h) (Or.inr ⟨by rfl, rfl⟩) ?_ ?_
    rotate_left
    ·simp only [Act.put, List.setIfInBounds_toArray, List.set_cons_zero, List.set_cons_succ, i64_w, i32_w]
     rfl
    refine pure_ (i := 18) (N := some 35) (v := ?_) (a' := ?_) #[true, true, true, true, true, true, true, true, true, true, true, true, true, true, true, true, true, true, true, false, false] rfl rfl (by kernel_rfl) (fun _ _ _ h => h) (Or.inl ⟨by rfl, ?_⟩) ?_ ?_
    rotate_left
    ·intro w'
     go_simp
     with_reducible rfl
    rotate_left
    ·simp only [Act.put, List.setIfInBounds_toArray, List.set_cons_zero, List.set_cons_succ, i64_w, i32_w]
     rfl
    refine last_ (i := 19) (N := none) #[true, true, true, true, true, true, true, true, true, true, true, true, true, true, true, true, true, true, true, true, false] rfl rfl (by kernel_rfl) (by decide) (fun K hK => ?_)
    refine skip_ (w1 := ?_) (by rfl) rfl ?_ ?_
    rotate_left
    ·go_simp
     rfl
    refine hK.out _ _ ?_
    clear hK K
    refine pure_ (i := 20) (N := some 3) (v := ?_) (a' := ?_) #[true, true, true, true, true, true, true, true, true, true, true, true, true, true, true, true, true, true, true, true, true] rfl rfl (by kernel_rfl) (fun _ _ _ h => h) (Or.inl ⟨by rfl, ?_⟩) ?_ ?_
    rotate_left
    ·intro w'
     go_simp
     with_reducible rfl
    rotate_left
    ·simp only [Act.put, List.setIfInBounds_toArray, List.set_cons_zero, List.set_cons_succ, i64_w, i32_w]
     rfl
    refine done_ (by kernel_rfl) ?_
    have hr6 : w6.heap[w.heap.size]? = some (.cells #[.string ⟨#[]⟩, .string ⟨#[]⟩, .string ⟨#[]⟩, .slice none 0 0] 33 (0, 0)) := by rw [← hwd]; exact blk_drew HR5b.out
    have hR6 : Kd.R k33 33 w6 base (fun _ => True) (.slice A3 x4.length c3) x4 := by rw [← hwd]; exact Kd.R_drew HR5.out
    have hB6 : Below w.heap.size w w6 := by rw [← hwd]; exact HB5.out.drew
    go_wp2
    refine bodyPost_ret (results_ct rfl _ _ w.heap.size 33 #[.string x1, .string x2, .string x3, .slice A3 x4.length c3] (0, 0) _ rfl (four_blk _ _ _ _ hr6) Tryz.underlying33 rfl (by kernel_rfl)) rfl ?_
    exact ⟨_, rfl, four_R _ _ _ _ hR6 hwg (by omega), four_below _ _ _ _ hB6 (Nat.le_refl _)⟩
 ·rw [if_neg hs] at h; cases h
end Go.Proofs.YtjcipbdocbomjaaGreatDoor.K
namespace Go.Proofs.YtjcipbdocbomjaaGreatDoor.K
def LS (W : World) (B : Nat) (v : Value) (l : List S30) : Prop :=
 (l = [] ∧ v = .slice none 0 0) ∨
 ∃ init k vk inner, l = init ++ [k] ∧ W.ownsRow B 30 2 v l.length (inner ++ [.string k.f0, vk]) ∧ Reps (k30.M W B (fun b => some b ≠ v.ownBlock ∧ some b ≠ vk.ownBlock)) 2 init inner ∧ Kd.R k35 35 W B (fun b => some b ≠ v.ownBlock) vk k.f1
theorem M_steps {α : Type} {d : Kd α} {W W1 : World} {B : Nat} {ok : Nat → Prop} {x : α} {cs : List Value} (h : d.M W B ok x cs) (hm : ∀ k, ok k → k < W.heap.size → W1.heap[k]? = W.heap[k]?) : d.M W1 B ok x cs :=
 d.M_mono (fun k hk => hk.1) (d.M_move (fun k hk => hm k hk.1 hk.2.2.1) (d.M_bound h))
theorem LS.move {W W1 : World} {B : Nat} {v : Value} {l : List S30} (h : LS W B v l) (hm : ∀ k, k < W.heap.size → W1.heap[k]? = W.heap[k]?) : LS W1 B v l := by
 rcases h with h | ⟨init, k, vk, inner, rfl, ho, hr, hk⟩
 ·exact .inl h
 ·exact .inr ⟨init, k, vk, inner, rfl, own_move ho (fun k hk => hm k (ho.lt k hk).2), hr.imp_ (fun _ _ hq => M_steps hq (fun k _ hk => hm k hk)), Kd.R_step hk (fun k _ hk => hm k hk)⟩
theorem LS.below {W W1 : World} {B : Nat} {v : Value} {l : List S30} (h : LS W B v l) (hb : Below W.heap.size W W1) : LS W1 B v l := h.move (fun k hk => hb.block k hk)
theorem LS.R {W : World} {B : Nat} {v : Value} {l : List S30} (h : LS W B v l) : Kd.R k30 30 W B (fun _ => True) v l := by
 rcases h with ⟨rfl, rfl⟩ | ⟨init, k, vk, inner, rfl, ho, hr, hk⟩
 ·exact Kd.R_nil _ _ _ _ _
 ·exact ⟨fun _ _ => trivial, _, ho, (hr.imp_ (fun _ _ hq => k30.M_mono (fun b hb => ⟨trivial, hb.1⟩) hq)).snoc (k30_mkM W B _ k (Kd.R_mono hk (fun b hb => ⟨trivial, hb⟩))) rfl⟩
theorem fresh_ne {W : World} {v v1 : Value} (hat : v1.ownBlock = v.ownBlock ∨ ∃ b, v1.ownBlock = some b ∧ W.heap.size ≤ b) {k : Nat} (hk : some k ≠ v.ownBlock) (hlt : k < W.heap.size) : some k ≠ v1.ownBlock := by
 rcases hat with hat | ⟨b, hb, hle⟩
 ·rw [hat]; exact hk
 ·rw [hb]; intro he; injection he with he; omega
theorem LS.added {W W1 : World} {B : Nat} {v v1 : Value} {l : List S30} {inner : List Value} (nm : ByteArray) (hr : Reps (k30.M W B (fun k => True ∧ some k ≠ v.ownBlock)) k30.sz l inner)
  (hown : W1.ownsRow B 30 2 v1 (l.length + 1) (inner ++ [.string nm, .slice none 0 0])) (hg : W.grownBy W1 v.ownBlock) (hat : v1.ownBlock = v.ownBlock ∨ ∃ b, v1.ownBlock = some b ∧ W.heap.size ≤ b) : LS W1 B v1 (l ++ [⟨nm, []⟩]) := by
 refine .inr ⟨l, ⟨nm, []⟩, .slice none 0 0, inner, rfl, by rw [List.length_append]; exact hown, hr.imp_ (fun p c hq => ?_), Kd.R_nil _ _ _ _ _⟩
 have h1 := k30.M_move (w1 := W1) (fun k hk => hg.block k hk.2.2.1 hk.1.2) (k30.M_bound hq)
 exact k30.M_mono (fun k hk => ⟨fresh_ne hat hk.1.2 hk.2.2.1, by simp [Value.ownBlock]⟩) h1
theorem own_put2 {W : World} {B g n cap : Nat} {xs : List Value} (h : W.ownsRow B 30 2 (.slice (some ⟨g, 0, none⟩) n cap) n xs) (j : Nat) (hj : j < n * 2) (u : Value) : (W.setCell ⟨g, j, none⟩ u).ownsRow B 30 2 (.slice (some ⟨g, 0, none⟩) n cap) n (xs.set j u) := by
 refine ⟨by rw [List.length_set]; exact h.1, ?_⟩
 rcases h.2 with ⟨hv, h0⟩ | ⟨g', cap', cur, hv, hb, hh, hn, hm, hs, ht⟩
 ·omega
 ·injection hv with ha _ hc
  injection ha with ha
  injection ha with hg _
  subst hg hc
  exact .inr ⟨_, _, cur.setIfInBounds j u, rfl, hb, blk_set hh j u, hn, hm, by rw [Array.size_setIfInBounds]; exact hs, by rw [Array.toList_setIfInBounds, ← ht, List.take_set]⟩
theorem LS.ruled {W : World} {B g m c : Nat} {init : List S30} {f0 : ByteArray} {vk v' : Value} {rs : List S35} {inner : List Value} (ho : W.ownsRow B 30 2 (.slice (some ⟨g, 0, none⟩) (m + 1) c) (m + 1) (inner ++ [.string f0, vk])) (hil : inner.length = m * 2) (hi : init.length = m) (hr : Reps (k30.M W B (fun b => some b ≠ some g ∧ some b ≠ v'.ownBlock)) 2 init inner) (hk : Kd.R k35 35 W B (fun b => some b ≠ some g) v' rs) : LS (W.setCell ⟨g, m * 2 + 1, none⟩ v') B (.slice (some ⟨g, 0, none⟩) (m + 1) c) (init ++ [⟨f0, rs⟩]) := by
 refine .inr ⟨init, ⟨f0, rs⟩, v', inner, rfl, ?_, ?_, ?_⟩
 ·have h1 := own_put2 ho (m * 2 + 1) (by omega) v'
  have h2 : (inner ++ [.string f0, vk]).set (m * 2 + 1) v' = inner ++ [.string f0, v'] := by
   rw [List.set_append_right _ _ (by omega), hil]
   have : m * 2 + 1 - m * 2 = 1 := by omega
   rw [this]; rfl
  rw [h2] at h1
  rw [List.length_append, hi]; exact h1
 ·exact hr.imp_ (fun _ _ hq => M_steps hq (fun k hk _ => Below.heap_setCell _ _ _ k (fun e => hk.1 (by rw [e]; rfl))))
 ·exact Kd.R_far hk (fun k hk e => hk (by rw [e])) _
def cutP (s sep : ByteArray) : ByteArray × ByteArray × Bool := (⟨(Lib.cut s.data.toList sep.data.toList).1.toArray⟩, ⟨(Lib.cut s.data.toList sep.data.toList).2.1.toArray⟩, (Lib.cut s.data.toList sep.data.toList).2.2)
def kindW : ByteArray := ⟨#[107, 105, 110, 100, 32]⟩
def restK (s : ByteArray) : ByteArray := ⟨(Lib.trimPrefix s.data.toList kindW.data.toList).toArray⟩
def isK (s : ByteArray) : Bool := Lib.hasPrefix s.data.toList kindW.data.toList
def addRule (l : List S30) (r : S35) : List S30 := l.dropLast ++ (l.getLast?.elim [] fun k => [⟨k.f0, k.f1 ++ [r]⟩])
def smallK (l : List S30) : Bool := decide (l.length ≤ 1000000000) && l.all fun k => decide (k.f1.length ≤ 1000000000)
def rule_line.f (k : Nat) (l : List S30) (s : ByteArray) : Option (List S30 × Bool) :=
 if s.size ≤ 1000000000 ∧ smallK l = true then
  if (isK s && wordP (restK s)) = true then some (l ++ [⟨restK s, []⟩], true)
  else (rule_parse.f k (cutP s ⟨#[32, 61, 32]⟩).2.1).bind fun r =>
   if ((cutP s ⟨#[32, 61, 32]⟩).2.2 && r.2.2.2.2 && wordP (cutP s ⟨#[32, 61, 32]⟩).1 && !l.isEmpty) = true then some (addRule l ⟨(cutP s ⟨#[32, 61, 32]⟩).1, ⟨r.1, r.2.1, r.2.2.1, r.2.2.2.1⟩⟩, true)
   else some ([], false)
 else none
end Go.Proofs.YtjcipbdocbomjaaGreatDoor.K
namespace Go.Proofs.YtjcipbdocbomjaaGreatDoor.K
set_option maxRecDepth 100000 in
set_option maxHeartbeats 4000000 in
theorem line_none (k : Nat) (l : List S30) (s : ByteArray) (l2 : List S30) (ok : Bool) (B : Nat) (v : Value) (w : World) (hB : B ≤ w.heap.size) (hL : LS w B v l) (hT : Tabs w) (hs : s.size ≤ 1000000000 ∧ smallK l = true) (hk : ¬ (isK s && wordP (restK s)) = true) (h : ((rule_parse.f k (cutP s ⟨#[32, 61, 32]⟩).2.1).bind fun r =>
   if ((cutP s ⟨#[32, 61, 32]⟩).2.2 && r.2.2.2.2 && wordP (cutP s ⟨#[32, 61, 32]⟩).1 && !l.isEmpty) = true then none
   else some ([], false)) = some (l2, ok)) :
  Calls Tryz.prog 30 #[v, .string s] w fun e w' => ∃ v', e = .returned (.tuple #[v', .bool ok]) ∧ LS w' B v' l2 ∧ Below B w w' := by
 have kP : ∀ W, Calls Tryz.prog 52 #[.string s, .string ⟨#[107, 105, 110, 100, 32]⟩] W fun e w' => e = .returned (.tuple #[.string (restK s), .bool (isK s)]) ∧ w' = W := fun W => Tryz.strings_CutPrefix s kindW W
 obtain ⟨is, hIs⟩ : ∃ is, isK s = is := ⟨_, rfl⟩
 obtain ⟨rk, hrk⟩ : ∃ rk, restK s = rk := ⟨_, rfl⟩
 rw [hIs, hrk] at hk
 simp only [hIs, hrk] at kP
 obtain ⟨A, c, hv, hlc⟩ : ∃ A c, v = .slice A l.length c ∧ l.length ≤ c := by
  obtain ⟨A, c, hv, hc, _⟩ := Kd.R_reads hL.R
  exact ⟨A, c, hv, hc⟩
 have hll : l.length ≤ 1000000000 := by
  have := hs.2; unfold smallK at this; rw [Bool.and_eq_true, decide_eq_true_eq] at this; exact this.1
 have HL := Aside0.mk hL
 clear hL hIs hrk
 subst hv
 obtain ⟨⟨x1, x2, x3, x4, fine⟩, hx, h⟩ := Option.bind_eq_some_iff.mp h
 obtain ⟨cc1, hc1⟩ : ∃ c, (cutP s ⟨#[32, 61, 32]⟩).1 = c := ⟨_, rfl⟩
 obtain ⟨cc2, hc2⟩ : ∃ c, (cutP s ⟨#[32, 61, 32]⟩).2.1 = c := ⟨_, rfl⟩
 obtain ⟨cok, hc3⟩ : ∃ c, (cutP s ⟨#[32, 61, 32]⟩).2.2 = c := ⟨_, rfl⟩
 have kC : ∀ W, Below w.heap.size w W → Calls Tryz.prog 29 #[.string s, .string ⟨#[32, 61, 32]⟩] W fun e w' => e = .returned (.tuple #[.string cc1, .string cc2, .bool cok]) ∧ Below W.heap.size W w' := by
  intro W hW
  obtain ⟨mm, hmm⟩ := (hT.keep hW).len
  refine (Tryz.strings_Cut s ⟨#[32, 61, 32]⟩ mm W (by omega) hmm).mono ?_
  rintro e w' ⟨rfl, n, rfl⟩
  refine ⟨?_, pw_below_drewN (Below.refl _ _) n⟩
  rw [← hc1, ← hc2, ← hc3]; rfl
 rw [hc1, hc3] at h
 rw [hc2] at hx
 have kX : ∀ W, Below w.heap.size w W → Calls Tryz.prog 54 #[.string cc2] W fun e w' => ∃ v3_ : Value, e = .returned (.tuple #[.agg #[.string x1, .string x2, .string x3, v3_], .bool fine]) ∧ Kd.R k33 33 w' W.heap.size (fun _ => True) v3_ x4 ∧ Below W.heap.size W w' :=
  fun W hW => rule_parse.calls k cc2 x1 x2 x3 x4 fine W hx (hT.keep hW)
 have kw2 := fun W => word_any cc1 W
 have kw := fun W => word_any rk W
 clear hx hc1 hc2 hc3 hT
 simp only at h
 have hkw : is = true → wordP rk = false := fun e => by
  cases hq : wordP rk with
  | false => rfl
  | true => exact absurd (by rw [e, hq]; rfl) hk
 clear hk
 by_cases hall : (cok && fine && wordP cc1 && !l.isEmpty) = true
 ·rw [if_pos hall] at h; cases h
 ·rw [if_neg hall] at h
  injection h with h; injection h with h1 h2
  subst h1 h2
  cases cok with
  | false =>
   cases is with
   | false =>
    clear hkw kw
    go_enter Tryz.func30, Tryz.ntmps30
    go_wp2_with (first | (go_at_call 52; refine (kP _).mono ?_; rintro e w1 ⟨rfl, hw1⟩; rw [hw1]; clear kP) | (go_at_call 29; refine (kC _ (by (exact Below.refl _ _))).mono ?_; rintro e w3 ⟨rfl, hb3⟩; have hB3 : Below w.heap.size w w3 := below_step (by (exact Below.refl _ _)) hb3; clear kC) | (go_at_call 54; refine (kX _ hB3).mono ?_; rintro e w4 ⟨v3, rfl, hR, hb4⟩; have hB4 := below_step hB3 hb4; obtain ⟨A3, c3, rfl⟩ := Kd.R_slice hR; have hB5 := below_step hB4 (below_alloc (Below.refl w4.heap.size w4) (.cells #[.string x1, .string x2, .string x3, .slice A3 x4.length c3] 33 (0, 0))); clear kX))
    go_ret2
    exact ⟨_, rfl, .inl ⟨rfl, rfl⟩, hB5.mono hB⟩
   | true =>
    have hkw := hkw rfl
    rw [hkw] at kw
    go_enter Tryz.func30, Tryz.ntmps30
    go_wp2_with (first | (go_at_call 52; refine (kP _).mono ?_; rintro e w1 ⟨rfl, hw1⟩; rw [hw1]; clear kP) | (go_at_call 53; refine (kw _).mono ?_; rintro e w2 ⟨rfl, hb2⟩; have hB2 := hb2; clear kw) | (go_at_call 29; refine (kC _ (by (exact hB2))).mono ?_; rintro e w3 ⟨rfl, hb3⟩; have hB3 : Below w.heap.size w w3 := below_step (by (exact hB2)) hb3; clear kC) | (go_at_call 54; refine (kX _ hB3).mono ?_; rintro e w4 ⟨v3, rfl, hR, hb4⟩; have hB4 := below_step hB3 hb4; obtain ⟨A3, c3, rfl⟩ := Kd.R_slice hR; have hB5 := below_step hB4 (below_alloc (Below.refl w4.heap.size w4) (.cells #[.string x1, .string x2, .string x3, .slice A3 x4.length c3] 33 (0, 0))); clear kX))
    go_ret2
    exact ⟨_, rfl, .inl ⟨rfl, rfl⟩, hB5.mono hB⟩
  | true =>
   cases fine with
   | false =>
    cases is with
    | false =>
     clear hkw kw
     go_enter Tryz.func30, Tryz.ntmps30
     go_wp2_with (first | (go_at_call 52; refine (kP _).mono ?_; rintro e w1 ⟨rfl, hw1⟩; rw [hw1]; clear kP) | (go_at_call 29; refine (kC _ (by (exact Below.refl _ _))).mono ?_; rintro e w3 ⟨rfl, hb3⟩; have hB3 : Below w.heap.size w w3 := below_step (by (exact Below.refl _ _)) hb3; clear kC) | (go_at_call 54; refine (kX _ hB3).mono ?_; rintro e w4 ⟨v3, rfl, hR, hb4⟩; have hB4 := below_step hB3 hb4; obtain ⟨A3, c3, rfl⟩ := Kd.R_slice hR; have hB5 := below_step hB4 (below_alloc (Below.refl w4.heap.size w4) (.cells #[.string x1, .string x2, .string x3, .slice A3 x4.length c3] 33 (0, 0))); clear kX))
     go_ret2
     exact ⟨_, rfl, .inl ⟨rfl, rfl⟩, hB5.mono hB⟩
    | true =>
     have hkw := hkw rfl
     rw [hkw] at kw
     go_enter Tryz.func30, Tryz.ntmps30
     go_wp2_with (first | (go_at_call 52; refine (kP _).mono ?_; rintro e w1 ⟨rfl, hw1⟩; rw [hw1]; clear kP) | (go_at_call 53; refine (kw _).mono ?_; rintro e w2 ⟨rfl, hb2⟩; have hB2 := hb2; clear kw) | (go_at_call 29; refine (kC _ (by (exact hB2))).mono ?_; rintro e w3 ⟨rfl, hb3⟩; have hB3 : Below w.heap.size w w3 := below_step (by (exact hB2)) hb3; clear kC) | (go_at_call 54; refine (kX _ hB3).mono ?_; rintro e w4 ⟨v3, rfl, hR, hb4⟩; have hB4 := below_step hB3 hb4; obtain ⟨A3, c3, rfl⟩ := Kd.R_slice hR; have hB5 := below_step hB4 (below_alloc (Below.refl w4.heap.size w4) (.cells #[.string x1, .string x2, .string x3, .slice A3 x4.length c3] 33 (0, 0))); clear kX))
     go_ret2
     exact ⟨_, rfl, .inl ⟨rfl, rfl⟩, hB5.mono hB⟩
   | true =>
    cases hw2 : wordP cc1 with
    | false =>
     rw [hw2] at kw2
     cases is with
     | false =>
      clear hkw kw
      go_enter Tryz.func30, Tryz.ntmps30
      go_wp2_with (first | (go_at_call 52; refine (kP _).mono ?_; rintro e w1 ⟨rfl, hw1⟩; rw [hw1]; clear kP) | (go_at_call 29; refine (kC _ (by (exact Below.refl _ _))).mono ?_; rintro e w3 ⟨rfl, hb3⟩; have hB3 : Below w.heap.size w w3 := below_step (by (exact Below.refl _ _)) hb3; clear kC) | (go_at_call 54; refine (kX _ hB3).mono ?_; rintro e w4 ⟨v3, rfl, hR, hb4⟩; have hB4 := below_step hB3 hb4; obtain ⟨A3, c3, rfl⟩ := Kd.R_slice hR; have hB5 := below_step hB4 (below_alloc (Below.refl w4.heap.size w4) (.cells #[.string x1, .string x2, .string x3, .slice A3 x4.length c3] 33 (0, 0))); clear kX) | (go_at_call 53; refine (kw2 _).mono ?_; rintro e w5 ⟨rfl, hb5⟩; have hB6 := below_step hB5 hb5))
      go_ret2
      exact ⟨_, rfl, .inl ⟨rfl, rfl⟩, hB6.mono hB⟩
     | true =>
      have hkw := hkw rfl
      rw [hkw] at kw
      go_enter Tryz.func30, Tryz.ntmps30
      go_wp2_with (first | (go_at_call 52; refine (kP _).mono ?_; rintro e w1 ⟨rfl, hw1⟩; rw [hw1]; clear kP) | (go_at_call 53; refine (kw _).mono ?_; rintro e w2 ⟨rfl, hb2⟩; have hB2 := hb2; clear kw) | (go_at_call 29; refine (kC _ (by (exact hB2))).mono ?_; rintro e w3 ⟨rfl, hb3⟩; have hB3 : Below w.heap.size w w3 := below_step (by (exact hB2)) hb3; clear kC) | (go_at_call 54; refine (kX _ hB3).mono ?_; rintro e w4 ⟨v3, rfl, hR, hb4⟩; have hB4 := below_step hB3 hb4; obtain ⟨A3, c3, rfl⟩ := Kd.R_slice hR; have hB5 := below_step hB4 (below_alloc (Below.refl w4.heap.size w4) (.cells #[.string x1, .string x2, .string x3, .slice A3 x4.length c3] 33 (0, 0))); clear kX) | (go_at_call 53; refine (kw2 _).mono ?_; rintro e w5 ⟨rfl, hb5⟩; have hB6 := below_step hB5 hb5))
      go_ret2
      exact ⟨_, rfl, .inl ⟨rfl, rfl⟩, hB6.mono hB⟩
    | true =>
     rw [hw2] at kw2 hall
     have hle : l = [] := by
      cases l with
      | nil => rfl
      | cons a b => exact absurd rfl hall
     have hl0 : (l.length : Int) = 0 := by rw [hle]; rfl
     have hln : l.length = 0 := by rw [hle]; rfl
     clear hall hle
     rw [hln] at hll hlc ⊢
     clear hl0
     cases is with
     | false =>
      clear hkw kw
      go_enter Tryz.func30, Tryz.ntmps30
      go_wp2_with (first | (go_at_call 52; refine (kP _).mono ?_; rintro e w1 ⟨rfl, hw1⟩; rw [hw1]; clear kP) | (go_at_call 29; refine (kC _ (by (exact Below.refl _ _))).mono ?_; rintro e w3 ⟨rfl, hb3⟩; have hB3 : Below w.heap.size w w3 := below_step (by (exact Below.refl _ _)) hb3; clear kC) | (go_at_call 54; refine (kX _ hB3).mono ?_; rintro e w4 ⟨v3, rfl, hR, hb4⟩; have hB4 := below_step hB3 hb4; obtain ⟨A3, c3, rfl⟩ := Kd.R_slice hR; have hB5 := below_step hB4 (below_alloc (Below.refl w4.heap.size w4) (.cells #[.string x1, .string x2, .string x3, .slice A3 x4.length c3] 33 (0, 0))); clear kX) | (go_at_call 53; refine (kw2 _).mono ?_; rintro e w5 ⟨rfl, hb5⟩; have hB6 := below_step hB5 hb5))
      go_ret2
      exact ⟨_, rfl, .inl ⟨rfl, rfl⟩, hB6.mono hB⟩
     | true =>
      have hkw := hkw rfl
      rw [hkw] at kw
      go_enter Tryz.func30, Tryz.ntmps30
      go_wp2_with (first | (go_at_call 52; refine (kP _).mono ?_; rintro e w1 ⟨rfl, hw1⟩; rw [hw1]; clear kP) | (go_at_call 53; refine (kw _).mono ?_; rintro e w2 ⟨rfl, hb2⟩; have hB2 := hb2; clear kw) | (go_at_call 29; refine (kC _ (by (exact hB2))).mono ?_; rintro e w3 ⟨rfl, hb3⟩; have hB3 : Below w.heap.size w w3 := below_step (by (exact hB2)) hb3; clear kC) | (go_at_call 54; refine (kX _ hB3).mono ?_; rintro e w4 ⟨v3, rfl, hR, hb4⟩; have hB4 := below_step hB3 hb4; obtain ⟨A3, c3, rfl⟩ := Kd.R_slice hR; have hB5 := below_step hB4 (below_alloc (Below.refl w4.heap.size w4) (.cells #[.string x1, .string x2, .string x3, .slice A3 x4.length c3] 33 (0, 0))); clear kX) | (go_at_call 53; refine (kw2 _).mono ?_; rintro e w5 ⟨rfl, hb5⟩; have hB6 := below_step hB5 hb5))
      go_ret2
      exact ⟨_, rfl, .inl ⟨rfl, rfl⟩, hB6.mono hB⟩
end Go.Proofs.YtjcipbdocbomjaaGreatDoor.K
namespace Go.Proofs.YtjcipbdocbomjaaGreatDoor.K
set_option maxRecDepth 100000 in
set_option maxHeartbeats 4000000 in
theorem line_ruled (k : Nat) (l : List S30) (s : ByteArray) (l2 : List S30) (ok : Bool) (B : Nat) (v : Value) (w : World) (hB : B ≤ w.heap.size) (hL : LS w B v l) (hT : Tabs w) (hs : s.size ≤ 1000000000 ∧ smallK l = true) (hk : ¬ (isK s && wordP (restK s)) = true) (h : ((rule_parse.f k (cutP s ⟨#[32, 61, 32]⟩).2.1).bind fun r =>
   if ((cutP s ⟨#[32, 61, 32]⟩).2.2 && r.2.2.2.2 && wordP (cutP s ⟨#[32, 61, 32]⟩).1 && !l.isEmpty) = true then some (addRule l ⟨(cutP s ⟨#[32, 61, 32]⟩).1, ⟨r.1, r.2.1, r.2.2.1, r.2.2.2.1⟩⟩, true)
   else none) = some (l2, ok)) :
  Calls Tryz.prog 30 #[v, .string s] w fun e w' => ∃ v', e = .returned (.tuple #[v', .bool ok]) ∧ LS w' B v' l2 ∧ Below B w w' := by
 have kP : ∀ W, Calls Tryz.prog 52 #[.string s, .string ⟨#[107, 105, 110, 100, 32]⟩] W fun e w' => e = .returned (.tuple #[.string (restK s), .bool (isK s)]) ∧ w' = W := fun W => Tryz.strings_CutPrefix s kindW W
 obtain ⟨is, hIs⟩ : ∃ is, isK s = is := ⟨_, rfl⟩
 obtain ⟨rk, hrk⟩ : ∃ rk, restK s = rk := ⟨_, rfl⟩
 rw [hIs, hrk] at hk
 simp only [hIs, hrk] at kP
 obtain ⟨A, c, hv, hlc⟩ : ∃ A c, v = .slice A l.length c ∧ l.length ≤ c := by
  obtain ⟨A, c, hv, hc, _⟩ := Kd.R_reads hL.R
  exact ⟨A, c, hv, hc⟩
 have hll : l.length ≤ 1000000000 := by
  have := hs.2; unfold smallK at this; rw [Bool.and_eq_true, decide_eq_true_eq] at this; exact this.1
 have HL := Aside0.mk hL
 clear hL hIs hrk
 subst hv
 obtain ⟨⟨x1, x2, x3, x4, fine⟩, hx, h⟩ := Option.bind_eq_some_iff.mp h
 obtain ⟨cc1, hc1⟩ : ∃ c, (cutP s ⟨#[32, 61, 32]⟩).1 = c := ⟨_, rfl⟩
 obtain ⟨cc2, hc2⟩ : ∃ c, (cutP s ⟨#[32, 61, 32]⟩).2.1 = c := ⟨_, rfl⟩
 obtain ⟨cok, hc3⟩ : ∃ c, (cutP s ⟨#[32, 61, 32]⟩).2.2 = c := ⟨_, rfl⟩
 have kC : ∀ W, Below w.heap.size w W → Calls Tryz.prog 29 #[.string s, .string ⟨#[32, 61, 32]⟩] W fun e w' => e = .returned (.tuple #[.string cc1, .string cc2, .bool cok]) ∧ Below W.heap.size W w' := by
  intro W hW
  obtain ⟨mm, hmm⟩ := (hT.keep hW).len
  refine (Tryz.strings_Cut s ⟨#[32, 61, 32]⟩ mm W (by omega) hmm).mono ?_
  rintro e w' ⟨rfl, n, rfl⟩
  refine ⟨?_, pw_below_drewN (Below.refl _ _) n⟩
  rw [← hc1, ← hc2, ← hc3]; rfl
 rw [hc1, hc3] at h
 rw [hc2] at hx
 have kX : ∀ W, Below w.heap.size w W → Calls Tryz.prog 54 #[.string cc2] W fun e w' => ∃ v3_ : Value, e = .returned (.tuple #[.agg #[.string x1, .string x2, .string x3, v3_], .bool fine]) ∧ Kd.R k33 33 w' W.heap.size (fun _ => True) v3_ x4 ∧ Below W.heap.size W w' :=
  fun W hW => rule_parse.calls k cc2 x1 x2 x3 x4 fine W hx (hT.keep hW)
 have kw2 := fun W => word_any cc1 W
 have kw := fun W => word_any rk W
 clear hx hc1 hc2 hc3 hT
 simp only at h
 have hkw : is = true → wordP rk = false := fun e => by
  cases hq : wordP rk with
  | false => rfl
  | true => exact absurd (by rw [e, hq]; rfl) hk
 clear hk
 by_cases hall : (cok && fine && wordP cc1 && !l.isEmpty) = true
 ·rw [if_pos hall] at h
  injection h with h; injection h with h1 h2
  subst h1 h2
  have h1 : cok = true ∧ fine = true ∧ wordP cc1 = true ∧ l ≠ [] := by
   rw [Bool.and_eq_true, Bool.and_eq_true, Bool.and_eq_true] at hall
   exact ⟨hall.1.1.1, hall.1.1.2, hall.1.2, fun e => by rw [e] at hall; exact absurd hall.2 (by decide)⟩
  obtain ⟨rfl, rfl, hw2, hne⟩ := h1
  clear hall
  rw [hw2] at kw2
  obtain ⟨init, kk, vk, inner, hlk, ho, hr, hk5⟩ : ∃ init k vk inner, l = init ++ [k] ∧ w.ownsRow B 30 2 (.slice A l.length c) l.length (inner ++ [.string k.f0, vk]) ∧ Reps (k30.M w B (fun b => some b ≠ (Value.slice A l.length c).ownBlock ∧ some b ≠ vk.ownBlock)) 2 init inner ∧ Kd.R k35 35 w B (fun b => some b ≠ (Value.slice A l.length c).ownBlock) vk k.f1 := HL.out.resolve_left (fun e => hne e.1)
  obtain ⟨m, hm⟩ : ∃ m, l.length = m + 1 := ⟨init.length, by rw [hlk]; simp⟩
  have him : init.length = m := by have := hm; rw [hlk, List.length_append] at this; simpa using this
  have hil : inner.length = m * 2 := by rw [← him]; exact hr.1
  have hkl : kk.f1.length ≤ 1000000000 := by
   have h2 := hs.2
   unfold smallK at h2
   rw [Bool.and_eq_true] at h2
   have h3 := List.all_eq_true.mp h2.2 kk (by rw [hlk]; simp)
   exact of_decide_eq_true h3
  rw [hm] at ho hr hk5 hll hlc
  obtain ⟨g, cur, rfl, hgB, hge, hcut⟩ : ∃ g cur, A = some ⟨g, 0, none⟩ ∧ B ≤ g ∧ w.heap[g]? = some (.cells cur 30 (0, 0)) ∧ cur.toList.take ((m + 1) * 2) = inner ++ [.string kk.f0, vk] := by
   rcases ho.2 with ⟨_, hh⟩ | ⟨g, cap', cur, hv, hb, hh, hn, hmm, hs', ht⟩
   ·omega
   ·injection hv with ha _ hc
    exact ⟨g, cur, ha, hb, hh, ht⟩
  have hcv : cur[m * 2 + 1]? = some vk := by
   have h5 : (cur.toList.take ((m + 1) * 2))[m * 2 + 1]? = some vk := by
    rw [hcut, List.getElem?_append_right (by omega), hil]
    have : m * 2 + 1 - m * 2 = 1 := by omega
    rw [this]; rfl
   rw [List.getElem?_take] at h5
   rw [if_pos (by omega)] at h5
   rw [← h5, Array.getElem?_toList]
  have hkf : kk.f1.length = kk.f1.length := rfl
  obtain ⟨A5, c5, rfl⟩ := Kd.R_slice hk5
  have HO := Aside0.mk ho
  have HR5 := Aside0.mk hk5
  have HRR := Aside0.mk hr
  have HLK := Aside0.mk hlk
  clear HL ho hk5 hr hne hs hlk hw2 hkf hcut
  rw [hm]
  have hgw : g < w.heap.size := blk_lt hge
  cases is with
  | true =>
   have hkw := hkw rfl
   rw [hkw] at kw
   go_enter Tryz.func30, Tryz.ntmps30
   go_upto_region 9 with (first | (go_at_call 52; refine (kP _).mono ?_; rintro e w1 ⟨rfl, hw1⟩; rw [hw1]; clear kP) | (go_at_call 53; refine (kw _).mono ?_; rintro e w2 ⟨rfl, hb2⟩; have hB2 := hb2; clear kw) | (go_at_call 29; refine (kC _ (by (exact hB2))).mono ?_; rintro e w3 ⟨rfl, hb3⟩; have hB3 : Below w.heap.size w w3 := below_step (by (exact hB2)) hb3; clear kC) | (go_at_call 54; refine (kX _ hB3).mono ?_; rintro e w4 ⟨v3, rfl, hR, hb4⟩; have hB4 := below_step hB3 hb4; obtain ⟨A3, c3, rfl⟩ := Kd.R_slice hR; have hB5 := below_step hB4 (below_alloc (Below.refl w4.heap.size w4) (.cells #[.string x1, .string x2, .string x3, .slice A3 x4.length c3] 33 (0, 0))); clear kX) | (go_at_call 53; refine (kw2 _).mono ?_; rintro e w5 ⟨rfl, hb5⟩; have hB6 := below_step hB5 hb5))
   obtain ⟨ge, hge2⟩ : ∃ ge, w4.heap.size = ge := ⟨_, rfl⟩
   have hgew : w.heap.size ≤ ge := by rw [← hge2]; exact hB4.size
   have be5 : w5.heap[ge]? = some (.cells #[.string x1, .string x2, .string x3, .slice A3 x4.length c3] 33 (0, 0)) := by
    rw [← hge2]; exact blk_below (blk_new w4 _) hb5
   rw [hge2]
   have bg5 := blk_below hge hB6
   have hR5 : Kd.R k33 33 w5 w3.heap.size (fun _ => True) (.slice A3 x4.length c3) x4 := Kd.R_below (Kd.R_below hR (below_alloc (Below.refl _ _) _)) hb5
   have h3w := hB3.size
   clear hw1 hb3 hB3 hb4 hB4 hR hB5 hb5 hge2
   refine start_ (n := 13) (S := fun w' => w'.cell? ⟨g, m * 2 + 1, none⟩ = some (.slice A5 kk.f1.length c5) ∧ w'.cell? ⟨ge, 0, none⟩ = some (.string x1) ∧ w'.cell? ⟨ge, 1, none⟩ = some (.string x2) ∧ w'.cell? ⟨ge, 2, none⟩ = some (.string x3) ∧ w'.cell? ⟨ge, 3, none⟩ = some (.slice A3 x4.length c3)) (ds := [12]) #[false, false, false, false, false, false, false, false, false, false, false, false, false] (by kernel_rfl) rfl rfl ⟨(blk_cell bg5 _).trans hcv, (blk_cell be5 0).trans rfl, (blk_cell be5 1).trans rfl, (blk_cell be5 2).trans rfl, (blk_cell be5 3).trans rfl⟩ (fun hHeld => ?_)
   obtain ⟨w6, hw6⟩ : ∃ w6, w5.drew = w6 := ⟨_, rfl⟩
   rw [hw6] at hHeld ⊢
   have be6 : w6.heap[ge]? = some (.cells #[.string x1, .string x2, .string x3, .slice A3 x4.length c3] 33 (0, 0)) := by rw [← hw6]; exact blk_drew be5
   have bg6 : w6.heap[g]? = some (.cells cur 30 (0, 0)) := by rw [← hw6]; exact blk_drew bg5
   have hR6 : Kd.R k33 33 w6 w3.heap.size (fun _ => True) (.slice A3 x4.length c3) x4 := by rw [← hw6]; exact Kd.R_drew hR5
   have hB7 : Below w.heap.size w w6 := by rw [← hw6]; exact below_drew1 hB6
   clear be5 bg5 hR5 hB6 hw6
   refine pure_ (i := 0) (N := some 61) (v := ?_) (a' := ?_) #[true, false, false, false, false, false, false, false, false, false, false, false, false] rfl rfl (by kernel_rfl) (fun _ _ _ h => h) (Or.inl ⟨by rfl, ?_⟩) ?_ ?_
   rotate_left
   ·intro w'
    go_simp
    with_reducible rfl
   rotate_left
   ·simp only [Act.put, List.setIfInBounds_toArray, List.set_cons_zero, List.set_cons_succ, i64_w, i32_w]
    rfl
   refine pure_ (i := 1) (N := some 62) (v := ?_) (a' := ?_) #[true, true, false, false, false, false, false, false, false, false, false, false, false] rfl rfl (by kernel_rfl) (fun _ _ _ h => h) (Or.inl ⟨by rfl, ?_⟩) ?_ ?_
   rotate_left
   ·intro w'
    go_simp
    with_reducible rfl
   rotate_left
   ·simp only [Act.put, List.setIfInBounds_toArray, List.set_cons_zero, List.set_cons_succ, i64_w, i32_w]
    rfl
   refine pure_ (i := 2) (N := some 63) (v := ?_) (a' := ?_) #[true, true, true, false, false, false, false, false, false, false, false, false, false] rfl rfl (by kernel_rfl) (fun _ _ _ h => h) (Or.inl ⟨by rfl, ?_⟩) ?_ ?_
   rotate_left
   ·intro w'
    go_simp
    with_reducible rfl
   rotate_left
   ·simp only [Act.put, List.setIfInBounds_toArray, List.set_cons_zero, List.set_cons_succ, i64_w, i32_w]
    rfl
   refine pure_ (i := 3) (N := some 64) (v := ?_) (a' := ?_) #[true, true, true, true, false, false, false, false, false, false, false, false, false] rfl rfl (by kernel_rfl) (fun _ _ _ h => h) (Or.inl ⟨by rfl, ?_⟩) ?_ ?_
   rotate_left
   ·intro w'
    go_simp
    with_reducible rfl
   rotate_left
   ·simp only [Act.put, List.setIfInBounds_toArray, List.set_cons_zero, List.set_cons_succ, i64_w, i32_w]
    rfl
   refine pure_ (i := 5) (N := some 66) (v := ?_) (a' := ?_) #[true, true, true, true, false, true, false, false, false, false, false, false, false] rfl rfl (by kernel_rfl) (fun _ _ _ h => h) (Or.inl ⟨by rfl, ?_⟩) ?_ ?_
   rotate_left
   ·intro w'
    go_simp
    with_reducible rfl
   rotate_left
   ·simp only [Act.put, List.setIfInBounds_toArray, List.set_cons_zero, List.set_cons_succ, i64_w, i32_w]
    rfl
   refine take_ (i := 4) (N := some 65) (v := ?_) (a' := ?_) #[true, true, true, true, true, true, false, false, false, false, false, false, false] rfl rfl (by kernel_rfl) (fun _ _ _ h => h) (Or.inl ⟨by rfl, ?_⟩) hHeld ?_ ?_
   rotate_left
   ·rintro w' ⟨s0, s1, s2, s3, s4⟩
    go_simp
    with_reducible rfl
   rotate_left
   ·simp only [Act.put, List.setIfInBounds_toArray, List.set_cons_zero, List.set_cons_succ, i64_w, i32_w]
    rfl
   refine take_ (i := 6) (N := some 67) (v := ?_) (a' := ?_) #[true, true, true, true, true, true, true, false, false, false, false, false, false] rfl rfl (by kernel_rfl) (fun _ _ _ h => h) (Or.inl ⟨by rfl, ?_⟩) hHeld ?_ ?_
   rotate_left
   ·rintro w' ⟨s0, s1, s2, s3, s4⟩
    go_simp
    with_reducible rfl
   rotate_left
   ·simp only [Act.put, List.setIfInBounds_toArray, List.set_cons_zero, List.set_cons_succ, i64_w, i32_w]
    rfl
   refine pure_ (i := 7) (N := some 68) (v := ?_) (a' := ?_) #[true, true, true, true, true, true, true, true, false, false, false, false, false] rfl rfl (by kernel_rfl) (fun _ _ _ h => h) (Or.inl ⟨by rfl, ?_⟩) ?_ ?_
   rotate_left
   ·intro w'
    go_simp
    with_reducible rfl
   rotate_left
   ·simp only [Act.put, List.setIfInBounds_toArray, List.set_cons_zero, List.set_cons_succ, i64_w, i32_w]
    rfl
   refine one_ (i := 8) (N := some 69) #[true, true, true, true, true, true, true, true, true, false, false, false, false] rfl rfl (by kernel_rfl) (by decide) (fun K hK => ?_)
   refine value_ (w1 := ?_) (v := ?_) (by rfl) rfl ?_ ?_
   rotate_left 2
   ·go_simp
    constructor
    ·rfl
    ·rfl
   refine hK.out _ _ ⟨(blk_cell (blk_alloc bg6 _) _).trans hcv, (blk_cell (blk_alloc be6 _) 0).trans rfl, (blk_cell (blk_alloc be6 _) 1).trans rfl, (blk_cell (blk_alloc be6 _) 2).trans rfl, (blk_cell (blk_alloc be6 _) 3).trans rfl⟩ (fun hHeld => ?_)
   clear hK K
   refine norm_ (a' := ?_) ?_ ?_
   rotate_left
   ·show Act.put _ (some 69) _ = _
    simp only [Act.put, List.setIfInBounds_toArray, List.set_cons_zero, List.set_cons_succ, i64_w, i32_w]
    rfl
   refine one_ (i := 9) (N := some 70) #[true, true, true, true, true, true, true, true, true, true, false, false, false] rfl rfl (by kernel_rfl) (by decide) (fun K hK => ?_)
   refine Kd.R_append_step k35 B (w0 := w) (by rfl) (.tmp 65) (.tmp 69) 28 35 (.agg #[(.string ⟨#[]⟩), (.string ⟨#[]⟩), (.string ⟨#[]⟩), (.string ⟨#[]⟩), (.slice none 0 0)]) 88 rfl Tryz.underlying28 info35 rfl (by decide) (by omega) (.slice A5 kk.f1.length c5) kk.f1 (⟨cc1, ⟨x1, x2, x3, x4⟩⟩ : S35) [.string cc1, .string x1, .string x2, .string x3, .slice A3 x4.length c3] (fun b => some b ≠ some g) (fun b => w3.heap.size ≤ b) rfl rfl ?aP ?aK ?aF ?aO (hB7.mono hB) ?aS ?aL ?_
   (case aP => exact k35_mkM _ _ _ (⟨cc1, ⟨x1, x2, x3, x4⟩⟩ : S35) (Kd.R_mono (Kd.R_lower (Kd.R_bound hR6) (Nat.le_trans hB h3w)) (fun _ hk => hk.2.1)))
   (case aK => exact fun b hb => ⟨fun e => (by injection e with e; omega), fun e => (by have := Kd.R_lt HR5.out b e.symm; omega)⟩)
   (case aF => exact fun b hb => fun e => (by injection e with e; have := hB7.size; omega))
   (case aO => exact Kd.R_below HR5.out hB7)
   (case aS => exact Nat.le_trans hB hB7.size)
   (case aL => omega)
   intro v7 w7 hR7 hb7 hg7 hat7
   have hne1 : some g ≠ (Value.slice A5 kk.f1.length c5).ownBlock := Kd.R_away HR5.out (fun k hk e => hk (by rw [e]; rfl))
   have hne2 : some ge ≠ (Value.slice A5 kk.f1.length c5).ownBlock := fun e => by have := Kd.R_lt HR5.out ge e.symm; omega
   have bg7 := blk_grown bg6 hg7 hne1
   have be7 := blk_grown be6 hg7 hne2
   have hO7 := own_move HO.out (w1 := w7) (fun k hk => (by
    have hk' : k = g := by simpa [Value.ownBlock] using hk.symm
    subst hk'
    rw [hg7.block k (Nat.lt_of_lt_of_le hgw hB7.size) hne1]
    exact hB7.block k hgw))
   have hrr7 : Reps (k30.M w7 B (fun b => some b ≠ some g ∧ some b ≠ v7.ownBlock)) 2 init inner := HRR.out.imp_ (fun p q hq => by
    have h1 := M_steps hq (fun k _ hk => hB7.block k hk)
    have h2 : k30.M w6 B (fun b => (some b ≠ some g ∧ some b ≠ (Value.slice A5 kk.f1.length c5).ownBlock) ∧ b < w6.heap.size) p q := k30.M_mono (fun k hk => ⟨hk.1, hk.2.2.1⟩) (k30.M_bound h1)
    exact k30.M_mono (fun k hk => ⟨hk.1.1, fresh_ne hat7 hk.1.2 hk.2⟩) (M_steps h2 (fun k hk hlt => hg7.block k hlt hk.1.2)))
   have HLS := Aside0.mk (LS.ruled hO7 hil him hrr7 hR7)
   have HB7 := Aside0.mk hb7
   obtain ⟨A7, c7, rfl⟩ := Kd.R_slice hR7
   clear hR7 hg7 hat7 hO7 hrr7 bg6 be6 hR6 hb7
   refine hK.out _ _ ⟨(blk_cell bg7 _).trans hcv, (blk_cell be7 0).trans rfl, (blk_cell be7 1).trans rfl, (blk_cell be7 2).trans rfl, (blk_cell be7 3).trans rfl⟩ (fun hHeld => ?_)
   clear hK K
   refine norm_ (a' := ?_) ?_ ?_
   rotate_left
   ·show Act.put _ (some 70) _ = _
    simp only [Act.put, List.setIfInBounds_toArray, List.set_cons_zero, List.set_cons_succ, i64_w, i32_w]
    rfl
   refine pure_ (i := 10) (N := some 71) (v := ?_) (a' := ?_) #[true, true, true, true, true, true, true, true, true, true, true, false, false] rfl rfl (by kernel_rfl) (fun _ _ _ h => h) (Or.inl ⟨by rfl, ?_⟩) ?_ ?_
   rotate_left
   ·intro w'
    go_simp
    with_reducible rfl
   rotate_left
   ·simp only [Act.put, List.setIfInBounds_toArray, List.set_cons_zero, List.set_cons_succ, i64_w, i32_w]
    rfl
   refine pure_ (i := 11) (N := some 72) (v := ?_) (a' := ?_) #[true, true, true, true, true, true, true, true, true, true, true, true, false] rfl rfl (by kernel_rfl) (fun _ _ _ h => h) (Or.inl ⟨by rfl, ?_⟩) ?_ ?_
   rotate_left
   ·intro w'
    go_simp
    with_reducible rfl
   rotate_left
   ·simp only [Act.put, List.setIfInBounds_toArray, List.set_cons_zero, List.set_cons_succ, i64_w, i32_w]
    rfl
   refine last_ (i := 12) (N := none) #[true, true, true, true, true, true, true, true, true, true, true, true, true] rfl rfl (by kernel_rfl) (by decide) (fun K hK => ?_)
   have hs7 : w7.cell? ⟨g, m * 2 + 1, none⟩ = some (.slice A5 kk.f1.length c5) := (blk_cell bg7 _).trans hcv
   have hfs7 := blk_frozen bg7 (m * 2 + 1)
   refine skip_ (w1 := ?_) (by rfl) rfl ?_ ?_
   rotate_left
   ·go_simp
    rfl
   refine hK.out _ _ ?_
   clear hK K
   refine done_ (by kernel_rfl) ?_
   try go_wp2
   go_ret2
   refine ⟨_, rfl, ?_, ?_⟩
   ·have hadd : addRule l ⟨cc1, ⟨x1, x2, x3, x4⟩⟩ = init ++ [⟨kk.f0, kk.f1 ++ [⟨cc1, ⟨x1, x2, x3, x4⟩⟩]⟩] := by
     rw [HLK.out]
     unfold addRule
     simp
    rw [hadd]
    have h3 := HLS.out
    rw [show (kk.f1 ++ [(⟨cc1, ⟨x1, x2, x3, x4⟩⟩ : S35)]).length = kk.f1.length + 1 by simp] at h3
    exact h3
   ·exact Below.setCell HB7.out hgB _
  | false =>
   clear hkw kw
   go_enter Tryz.func30, Tryz.ntmps30
   go_upto_region 9 with (first | (go_at_call 52; refine (kP _).mono ?_; rintro e w1 ⟨rfl, hw1⟩; rw [hw1]; clear kP) | (go_at_call 29; refine (kC _ (by (exact Below.refl _ _))).mono ?_; rintro e w3 ⟨rfl, hb3⟩; have hB3 : Below w.heap.size w w3 := below_step (by (exact Below.refl _ _)) hb3; clear kC) | (go_at_call 54; refine (kX _ hB3).mono ?_; rintro e w4 ⟨v3, rfl, hR, hb4⟩; have hB4 := below_step hB3 hb4; obtain ⟨A3, c3, rfl⟩ := Kd.R_slice hR; have hB5 := below_step hB4 (below_alloc (Below.refl w4.heap.size w4) (.cells #[.string x1, .string x2, .string x3, .slice A3 x4.length c3] 33 (0, 0))); clear kX) | (go_at_call 53; refine (kw2 _).mono ?_; rintro e w5 ⟨rfl, hb5⟩; have hB6 := below_step hB5 hb5))
   obtain ⟨ge, hge2⟩ : ∃ ge, w4.heap.size = ge := ⟨_, rfl⟩
   have hgew : w.heap.size ≤ ge := by rw [← hge2]; exact hB4.size
   have be5 : w5.heap[ge]? = some (.cells #[.string x1, .string x2, .string x3, .slice A3 x4.length c3] 33 (0, 0)) := by
    rw [← hge2]; exact blk_below (blk_new w4 _) hb5
   rw [hge2]
   have bg5 := blk_below hge hB6
   have hR5 : Kd.R k33 33 w5 w3.heap.size (fun _ => True) (.slice A3 x4.length c3) x4 := Kd.R_below (Kd.R_below hR (below_alloc (Below.refl _ _) _)) hb5
   have h3w := hB3.size
   clear hw1 hb3 hB3 hb4 hB4 hR hB5 hb5 hge2
   refine start_ (n := 13) (S := fun w' => w'.cell? ⟨g, m * 2 + 1, none⟩ = some (.slice A5 kk.f1.length c5) ∧ w'.cell? ⟨ge, 0, none⟩ = some (.string x1) ∧ w'.cell? ⟨ge, 1, none⟩ = some (.string x2) ∧ w'.cell? ⟨ge, 2, none⟩ = some (.string x3) ∧ w'.cell? ⟨ge, 3, none⟩ = some (.slice A3 x4.length c3)) (ds := [12]) #[false, false, false, false, false, false, false, false, false, false, false, false, false] (by kernel_rfl) rfl rfl ⟨(blk_cell bg5 _).trans hcv, (blk_cell be5 0).trans rfl, (blk_cell be5 1).trans rfl, (blk_cell be5 2).trans rfl, (blk_cell be5 3).trans rfl⟩ (fun hHeld => ?_)
   obtain ⟨w6, hw6⟩ : ∃ w6, w5.drew = w6 := ⟨_, rfl⟩
   rw [hw6] at hHeld ⊢
   have be6 : w6.heap[ge]? = some (.cells #[.string x1, .string x2, .string x3, .slice A3 x4.length c3] 33 (0, 0)) := by rw [← hw6]; exact blk_drew be5
   have bg6 : w6.heap[g]? = some (.cells cur 30 (0, 0)) := by rw [← hw6]; exact blk_drew bg5
   have hR6 : Kd.R k33 33 w6 w3.heap.size (fun _ => True) (.slice A3 x4.length c3) x4 := by rw [← hw6]; exact Kd.R_drew hR5
   have hB7 : Below w.heap.size w w6 := by rw [← hw6]; exact below_drew1 hB6
   clear be5 bg5 hR5 hB6 hw6
   refine pure_ (i := 0) (N := some 61) (v := ?_) (a' := ?_) #[true, false, false, false, false, false, false, false, false, false, false, false, false] rfl rfl (by kernel_rfl) (fun _ _ _ h => h) (Or.inl ⟨by rfl, ?_⟩) ?_ ?_
   rotate_left
   ·intro w'
    go_simp
    with_reducible rfl
   rotate_left
   ·simp only [Act.put, List.setIfInBounds_toArray, List.set_cons_zero, List.set_cons_succ, i64_w, i32_w]
    rfl
   refine pure_ (i := 1) (N := some 62) (v := ?_) (a' := ?_) #[true, true, false, false, false, false, false, false, false, false, false, false, false] rfl rfl (by kernel_rfl) (fun _ _ _ h => h) (Or.inl ⟨by rfl, ?_⟩) ?_ ?_
   rotate_left
   ·intro w'
    go_simp
    with_reducible rfl
   rotate_left
   ·simp only [Act.put, List.setIfInBounds_toArray, List.set_cons_zero, List.set_cons_succ, i64_w, i32_w]
    rfl
   refine pure_ (i := 2) (N := some 63) (v := ?_) (a' := ?_) #[true, true, true, false, false, false, false, false, false, false, false, false, false] rfl rfl (by kernel_rfl) (fun _ _ _ h => h) (Or.inl ⟨by rfl, ?_⟩) ?_ ?_
   rotate_left
   ·intro w'
    go_simp
    with_reducible rfl
   rotate_left
   ·simp only [Act.put, List.setIfInBounds_toArray, List.set_cons_zero, List.set_cons_succ, i64_w, i32_w]
    rfl
   refine pure_ (i := 3) (N := some 64) (v := ?_) (a' := ?_) #[true, true, true, true, false, false, false, false, false, false, false, false, false] rfl rfl (by kernel_rfl) (fun _ _ _ h => h) (Or.inl ⟨by rfl, ?_⟩) ?_ ?_
   rotate_left
   ·intro w'
    go_simp
    with_reducible rfl
   rotate_left
   ·simp only [Act.put, List.setIfInBounds_toArray, List.set_cons_zero, List.set_cons_succ, i64_w, i32_w]
    rfl
   refine pure_ (i := 5) (N := some 66) (v := ?_) (a' := ?_) #[true, true, true, true, false, true, false, false, false, false, false, false, false] rfl rfl (by kernel_rfl) (fun _ _ _ h => h) (Or.inl ⟨by rfl, ?_⟩) ?_ ?_
   rotate_left
   ·intro w'
    go_simp
    with_reducible rfl
   rotate_left
   ·simp only [Act.put, List.setIfInBounds_toArray, List.set_cons_zero, List.set_cons_succ, i64_w, i32_w]
    rfl
   refine take_ (i := 4) (N := some 65) (v := ?_) (a' := ?_) #[true, true, true, true, true, true, false, false, false, false, false, false, false] rfl rfl (by kernel_rfl) (fun _ _ _ h => h) (Or.inl ⟨by rfl, ?_⟩) hHeld ?_ ?_
   rotate_left
   ·rintro w' ⟨s0, s1, s2, s3, s4⟩
    go_simp
    with_reducible rfl
   rotate_left
   ·simp only [Act.put, List.setIfInBounds_toArray, List.set_cons_zero, List.set_cons_succ, i64_w, i32_w]
    rfl
   refine take_ (i := 6) (N := some 67) (v := ?_) (a' := ?_) #[true, true, true, true, true, true, true, false, false, false, false, false, false] rfl rfl (by kernel_rfl) (fun _ _ _ h => h) (Or.inl ⟨by rfl, ?_⟩) hHeld ?_ ?_
   rotate_left
   ·rintro w' ⟨s0, s1, s2, s3, s4⟩
    go_simp
    with_reducible rfl
   rotate_left
   ·simp only [Act.put, List.setIfInBounds_toArray, List.set_cons_zero, List.set_cons_succ, i64_w, i32_w]
    rfl
   refine pure_ (i := 7) (N := some 68) (v := ?_) (a' := ?_) #[true, true, true, true, true, true, true, true, false, false, false, false, false] rfl rfl (by kernel_rfl) (fun _ _ _ h => h) (Or.inl ⟨by rfl, ?_⟩) ?_ ?_
   rotate_left
   ·intro w'
    go_simp
    with_reducible rfl
   rotate_left
   ·simp only [Act.put, List.setIfInBounds_toArray, List.set_cons_zero, List.set_cons_succ, i64_w, i32_w]
    rfl
   refine one_ (i := 8) (N := some 69) #[true, true, true, true, true, true, true, true, true, false, false, false, false] rfl rfl (by kernel_rfl) (by decide) (fun K hK => ?_)
   refine value_ (w1 := ?_) (v := ?_) (by rfl) rfl ?_ ?_
   rotate_left 2
   ·go_simp
    constructor
    ·rfl
    ·rfl
   refine hK.out _ _ ⟨(blk_cell (blk_alloc bg6 _) _).trans hcv, (blk_cell (blk_alloc be6 _) 0).trans rfl, (blk_cell (blk_alloc be6 _) 1).trans rfl, (blk_cell (blk_alloc be6 _) 2).trans rfl, (blk_cell (blk_alloc be6 _) 3).trans rfl⟩ (fun hHeld => ?_)
   clear hK K
   refine norm_ (a' := ?_) ?_ ?_
   rotate_left
   ·show Act.put _ (some 69) _ = _
    simp only [Act.put, List.setIfInBounds_toArray, List.set_cons_zero, List.set_cons_succ, i64_w, i32_w]
    rfl
   refine one_ (i := 9) (N := some 70) #[true, true, true, true, true, true, true, true, true, true, false, false, false] rfl rfl (by kernel_rfl) (by decide) (fun K hK => ?_)
   refine Kd.R_append_step k35 B (w0 := w) (by rfl) (.tmp 65) (.tmp 69) 28 35 (.agg #[(.string ⟨#[]⟩), (.string ⟨#[]⟩), (.string ⟨#[]⟩), (.string ⟨#[]⟩), (.slice none 0 0)]) 88 rfl Tryz.underlying28 info35 rfl (by decide) (by omega) (.slice A5 kk.f1.length c5) kk.f1 (⟨cc1, ⟨x1, x2, x3, x4⟩⟩ : S35) [.string cc1, .string x1, .string x2, .string x3, .slice A3 x4.length c3] (fun b => some b ≠ some g) (fun b => w3.heap.size ≤ b) rfl rfl ?aP ?aK ?aF ?aO (hB7.mono hB) ?aS ?aL ?_
   (case aP => exact k35_mkM _ _ _ (⟨cc1, ⟨x1, x2, x3, x4⟩⟩ : S35) (Kd.R_mono (Kd.R_lower (Kd.R_bound hR6) (Nat.le_trans hB h3w)) (fun _ hk => hk.2.1)))
   (case aK => exact fun b hb => ⟨fun e => (by injection e with e; omega), fun e => (by have := Kd.R_lt HR5.out b e.symm; omega)⟩)
   (case aF => exact fun b hb => fun e => (by injection e with e; have := hB7.size; omega))
   (case aO => exact Kd.R_below HR5.out hB7)
   (case aS => exact Nat.le_trans hB hB7.size)
   (case aL => omega)
   intro v7 w7 hR7 hb7 hg7 hat7
   have hne1 : some g ≠ (Value.slice A5 kk.f1.length c5).ownBlock := Kd.R_away HR5.out (fun k hk e => hk (by rw [e]; rfl))
   have hne2 : some ge ≠ (Value.slice A5 kk.f1.length c5).ownBlock := fun e => by have := Kd.R_lt HR5.out ge e.symm; omega
   have bg7 := blk_grown bg6 hg7 hne1
   have be7 := blk_grown be6 hg7 hne2
   have hO7 := own_move HO.out (w1 := w7) (fun k hk => (by
    have hk' : k = g := by simpa [Value.ownBlock] using hk.symm
    subst hk'
    rw [hg7.block k (Nat.lt_of_lt_of_le hgw hB7.size) hne1]
    exact hB7.block k hgw))
   have hrr7 : Reps (k30.M w7 B (fun b => some b ≠ some g ∧ some b ≠ v7.ownBlock)) 2 init inner := HRR.out.imp_ (fun p q hq => by
    have h1 := M_steps hq (fun k _ hk => hB7.block k hk)
    have h2 : k30.M w6 B (fun b => (some b ≠ some g ∧ some b ≠ (Value.slice A5 kk.f1.length c5).ownBlock) ∧ b < w6.heap.size) p q := k30.M_mono (fun k hk => ⟨hk.1, hk.2.2.1⟩) (k30.M_bound h1)
    exact k30.M_mono (fun k hk => ⟨hk.1.1, fresh_ne hat7 hk.1.2 hk.2⟩) (M_steps h2 (fun k hk hlt => hg7.block k hlt hk.1.2)))
   have HLS := Aside0.mk (LS.ruled hO7 hil him hrr7 hR7)
   have HB7 := Aside0.mk hb7
   obtain ⟨A7, c7, rfl⟩ := Kd.R_slice hR7
   clear hR7 hg7 hat7 hO7 hrr7 bg6 be6 hR6 hb7
   refine hK.out _ _ ⟨(blk_cell bg7 _).trans hcv, (blk_cell be7 0).trans rfl, (blk_cell be7 1).trans rfl, (blk_cell be7 2).trans rfl, (blk_cell be7 3).trans rfl⟩ (fun hHeld => ?_)
   clear hK K
   refine norm_ (a' := ?_) ?_ ?_
   rotate_left
   ·show Act.put _ (some 70) _ = _
    simp only [Act.put, List.setIfInBounds_toArray, List.set_cons_zero, List.set_cons_succ, i64_w, i32_w]
    rfl
   refine pure_ (i := 10) (N := some 71) (v := ?_) (a' := ?_) #[true, true, true, true, true, true, true, true, true, true, true, false, false] rfl rfl (by kernel_rfl) (fun _ _ _ h => h) (Or.inl ⟨by rfl, ?_⟩) ?_ ?_
   rotate_left
   ·intro w'
    go_simp
    with_reducible rfl
   rotate_left
   ·simp only [Act.put, List.setIfInBounds_toArray, List.set_cons_zero, List.set_cons_succ, i64_w, i32_w]
    rfl
   refine pure_ (i := 11) (N := some 72) (v := ?_) (a' := ?_) #[true, true, true, true, true, true, true, true, true, true, true, true, false] rfl rfl (by kernel_rfl) (fun _ _ _ h => h) (Or.inl ⟨by rfl, ?_⟩) ?_ ?_
   rotate_left
   ·intro w'
    go_simp
    with_reducible rfl
   rotate_left
   ·simp only [Act.put, List.setIfInBounds_toArray, List.set_cons_zero, List.set_cons_succ, i64_w, i32_w]
    rfl
   refine last_ (i := 12) (N := none) #[true, true, true, true, true, true, true, true, true, true, true, true, true] rfl rfl (by kernel_rfl) (by decide) (fun K hK => ?_)
   have hs7 : w7.cell? ⟨g, m * 2 + 1, none⟩ = some (.slice A5 kk.f1.length c5) := (blk_cell bg7 _).trans hcv
   have hfs7 := blk_frozen bg7 (m * 2 + 1)
   refine skip_ (w1 := ?_) (by rfl) rfl ?_ ?_
   rotate_left
   ·go_simp
    rfl
   refine hK.out _ _ ?_
   clear hK K
   refine done_ (by kernel_rfl) ?_
   try go_wp2
   go_ret2
   refine ⟨_, rfl, ?_, ?_⟩
   ·have hadd : addRule l ⟨cc1, ⟨x1, x2, x3, x4⟩⟩ = init ++ [⟨kk.f0, kk.f1 ++ [⟨cc1, ⟨x1, x2, x3, x4⟩⟩]⟩] := by
     rw [HLK.out]
     unfold addRule
     simp
    rw [hadd]
    have h3 := HLS.out
    rw [show (kk.f1 ++ [(⟨cc1, ⟨x1, x2, x3, x4⟩⟩ : S35)]).length = kk.f1.length + 1 by simp] at h3
    exact h3
   ·exact Below.setCell HB7.out hgB _
 ·rw [if_neg hall] at h; cases h
end Go.Proofs.YtjcipbdocbomjaaGreatDoor.K
namespace Go.Proofs.YtjcipbdocbomjaaGreatDoor.K
set_option maxRecDepth 100000 in
set_option maxHeartbeats 4000000 in
theorem rule_line.calls (k : Nat) (l : List S30) (s : ByteArray) (l2 : List S30) (ok : Bool) (B : Nat) (v : Value) (w : World) (hB : B ≤ w.heap.size) (hL : LS w B v l) (hT : Tabs w) (h : rule_line.f k l s = some (l2, ok)) :
  Calls Tryz.prog 30 #[v, .string s] w fun e w' => ∃ v', e = .returned (.tuple #[v', .bool ok]) ∧ LS w' B v' l2 ∧ Below B w w' := by
 unfold rule_line.f at h
 by_cases hs : s.size ≤ 1000000000 ∧ smallK l = true
 ·rw [if_pos hs] at h
  by_cases hk : (isK s && wordP (restK s)) = true
  case neg =>
   rw [if_neg hk] at h
   cases hx : rule_parse.f k (cutP s ⟨#[32, 61, 32]⟩).2.1 with
   | none => rw [hx] at h; cases h
   | some r =>
    rw [hx] at h
    by_cases hall : ((cutP s ⟨#[32, 61, 32]⟩).2.2 && r.2.2.2.2 && wordP (cutP s ⟨#[32, 61, 32]⟩).1 && !l.isEmpty) = true
    ·refine line_ruled k l s l2 ok B v w hB hL hT hs hk ?_
     rw [hx]; simp only [Option.bind_some] at h ⊢; rw [if_pos hall] at h ⊢; exact h
    ·refine line_none k l s l2 ok B v w hB hL hT hs hk ?_
     rw [hx]; simp only [Option.bind_some] at h ⊢; rw [if_neg hall] at h ⊢; exact h
  rw [if_pos hk] at h
  have kP : ∀ W, Calls Tryz.prog 52 #[.string s, .string ⟨#[107, 105, 110, 100, 32]⟩] W fun e w' => e = .returned (.tuple #[.string (restK s), .bool (isK s)]) ∧ w' = W := fun W => Tryz.strings_CutPrefix s kindW W
  obtain ⟨is, hIs⟩ : ∃ is, isK s = is := ⟨_, rfl⟩
  obtain ⟨rk, hrk⟩ : ∃ rk, restK s = rk := ⟨_, rfl⟩
  rw [hIs, hrk] at hk
  rw [hrk] at h
  simp only [hIs, hrk] at kP
  obtain ⟨A, c, hv, hlc⟩ : ∃ A c, v = .slice A l.length c ∧ l.length ≤ c := by
   obtain ⟨A, c, hv, hc, _⟩ := Kd.R_reads hL.R
   exact ⟨A, c, hv, hc⟩
  have hll : l.length ≤ 1000000000 := by
   have := hs.2; unfold smallK at this; rw [Bool.and_eq_true, decide_eq_true_eq] at this; exact this.1
  have HL := Aside0.mk hL
  clear hL hIs hrk
  subst hv
  ·injection h with h; injection h with h1 h2
   subst h1 h2
   rw [Bool.and_eq_true] at hk
   obtain ⟨rfl, hwk⟩ := hk
   have kw := fun W => word_any rk W
   rw [hwk] at kw
   obtain ⟨_, inner, ho, hr⟩ := HL.out.R
   go_enter Tryz.func30, Tryz.ntmps30
   go_wp2_with (first | (go_at_call 52; refine (kP _).mono ?_; rintro e w1 ⟨rfl, hw1⟩; rw [hw1]) | (go_at_call 53; refine (kw _).mono ?_; rintro e w2 ⟨rfl, hb2⟩) | (at_builtin; refine print_append_cells (w0 := w) B rfl _ _ 22 30 (.agg #[.string ⟨#[]⟩, .slice none 0 0]) 2 40 rfl Tryz.underlying22 info30 rfl (by decide) (by decide) (.slice A l.length c) l.length inner [.string rk, .slice none 0 0] rfl rfl rfl ?h1 ?ho ?HB ?hb ?hl ?_))
   case h1 => intro u hu; simp only [List.mem_cons, List.not_mem_nil, or_false] at hu; rcases hu with rfl | rfl <;> rfl
   case ho => exact own_move ho (fun k hk => hb2.block k (ho.lt k hk).2)
   case HB => exact hb2.mono hB
   case hb => exact Nat.le_trans hB hb2.size
   case hl => omega
   intro v1 w3 hown hb3 hg hat
   have hr2 : Reps (k30.M w2 B (fun k => True ∧ some k ≠ (Value.slice A l.length c).ownBlock)) k30.sz l inner := hr.imp_ (fun _ _ hq => M_steps hq (fun k _ hk => hb2.block k hk))
   have hLS := LS.added rk hr2 hown hg hat
   obtain ⟨A1, c1, rfl⟩ := Kd.R_slice hLS.R
   have HLS := Aside0.mk hLS
   have HB3 := Aside0.mk hb3
   clear hLS hown hg hat hr2 ho hr hb3
   go_wp2
   go_ret2
   exact ⟨_, rfl, HLS.out, HB3.out⟩
 ·rw [if_neg hs] at h; cases h
end Go.Proofs.YtjcipbdocbomjaaGreatDoor.K
namespace Go.Proofs.YtjcipbdocbomjaaGreatDoor.K
def strings_Cut.f (s sep : ByteArray) : Option (ByteArray × ByteArray × Bool) := if s.size ≤ 1000000000 then some (cutP s sep) else none
theorem strings_Cut.calls (s sep : ByteArray) (r1 r2 : ByteArray) (r3 : Bool) (w : World) (hT : Tabs w) (h : strings_Cut.f s sep = some (r1, r2, r3)) :
  Calls Tryz.prog 29 #[.string s, .string sep] w fun e w' => e = .returned (.tuple #[.string r1, .string r2, .bool r3]) ∧ Below w.heap.size w w' := by
 unfold strings_Cut.f at h
 by_cases hs : s.size ≤ 1000000000
 ·rw [if_pos hs] at h
  injection h with h
  obtain ⟨mm, hmm⟩ := hT.len
  refine (Tryz.strings_Cut s sep mm w (by omega) hmm).mono ?_
  rintro e w' ⟨rfl, n, rfl⟩
  refine ⟨?_, pw_below_drewN (Below.refl _ _) n⟩
  have h1 : (cutP s sep).1 = r1 := congrArg (·.1) h
  have h2 : (cutP s sep).2.1 = r2 := congrArg (·.2.1) h
  have h3 : (cutP s sep).2.2 = r3 := congrArg (·.2.2) h
  rw [← h1, ← h2, ← h3]; rfl
 ·rw [if_neg hs] at h; cases h
def rule_Read.l0 (kl : Nat) : Nat → ByteArray → List (S30) → Int → Option ((List (S30)) × Int × Int)
 | 0, _, _, _ => none
 | k + 1, x0, x5, x6 => if x0.toList = ([] : List UInt8) then ((rule_Check.f x5).bind fun t108 => (if t108 = 0 then (some (x5, 0, 0)) else (some (([] : List (S30)), 0, t108)))) else ((strings_Cut.f x0 (⟨#[10]⟩ : ByteArray)).bind fun bt101 => (if bt101.2.2 = true then ((rule_line.f kl x5 bt101.1).bind fun bt104 => (if bt104.2 = true then (rule_Read.l0 kl k bt101.2.1 bt104.1 (wrap64 (x6 + 1))) else (some (([] : List (S30)), x6, 120)))) else (some (([] : List (S30)), x6, 120))))
def rule_Read.f (k : Nat) (a0 : ByteArray) : Option ((List (S30)) × Int × Int) := rule_Read.l0 k k a0 ([] : List (S30)) 1
set_option maxHeartbeats 8000000 in
set_option maxRecDepth 100000 in
theorem rule_Read.calls (k : Nat) (a0 : ByteArray) (r1 : List (S30)) (r2 : Int) (r3 : Int) (w : World) (hT : Tabs w) (h : rule_Read.f k a0 = some (r1, r2, r3)) :
  Calls Tryz.prog 14 #[.string a0] w fun e w' => ∃ v0_ : Value, e = .returned (.tuple #[v0_, .int .i64 r2, .int .i64 r3]) ∧ Kd.R k30 30 w' w.heap.size (fun _ => True) v0_ r1 ∧ Below w.heap.size w w' := by
 have HTT := Aside0.mk hT
 clear hT
 have HB := Aside0.mk (Below.refl w.heap.size w)
 have H : (rule_Read.l0 k k a0 ([] : List (S30)) 1) = some (r1, r2, r3) := h
 clear h
 have H' := Aside0.mk H
 clear H
 go_enter Tryz.func14, Tryz.ntmps14
 go_wp2
 go_loopg [0, 5, 6] k (fun kq v0 v5 v6 w' => ∃ (x0_1 : ByteArray) (x5_1 : List (S30)) (x6_1 : Int), v0 = .string x0_1 ∧ v6 = .int .i64 x6_1 ∧ Aside0 (rule_Read.l0 k kq x0_1 x5_1 x6_1 = some (r1, r2, r3)) ∧ Aside0 (kq ≤ k) ∧ Aside0 (LS w' w.heap.size v5 x5_1) ∧ Aside0 (Below w.heap.size w w'))
 case atStart => exact ⟨(a0), (([] : List (S30))), (1), (by (rfl)), (by (rfl)), H', ⟨Nat.le_refl _⟩, ⟨.inl ⟨rfl, rfl⟩⟩, ⟨by repeat ((with_reducible (exact HB.out)))⟩⟩
 case round =>
  clear H'
  obtain ⟨x0_1, x5_1, x6_1, rfl, rfl, HA, HK1, HO_5, HB⟩ := hrel
  cases gk with
  | zero => exact absurd HA.out (by simp [rule_Read.l0])
  | succ k1 =>
   have H := HA.out
   clear HA
   simp only [rule_Read.l0] at H
   by_cases c2 : x0_1.toList = ([] : List UInt8)
   ·rw [if_pos c2] at H
    have c2b0 : (x0_1.toList == ([] : List UInt8)) = true := beq_iff_eq.mpr c2
    have c2b1 : (x0_1.toList != ([] : List UInt8)) = false := bne_eq_false_iff_eq.mpr c2
    clear c2
    replace H := Option.bind_eq_some_iff.mp H
    obtain ⟨t108, A30, H⟩ := H
    replace H : (if t108 = 0 then (some (x5_1, 0, 0)) else (some (([] : List (S30)), 0, t108))) = some (r1, r2, r3) := H
    have A3 := Aside0.mk A30
    clear A30
    by_cases c4 : t108 = 0
    ·rw [if_pos c4] at H
     have c4b0 : (t108 == 0) = true := beq_iff_eq.mpr c4
     have c4b1 : (t108 != 0) = false := bne_eq_false_iff_eq.mpr c4
     clear c4
     simp only [Option.some.injEq, Prod.mk.injEq] at H
     obtain ⟨rfl, rfl, rfl⟩ := H
     obtain ⟨Ao5, co5, eo5⟩ := Kd.R_slice HO_5.out.R
     subst eo5
     go_wp2_with (((with_reducible refine gate_callee (f := 22) rfl ?_); refine goesL_ (some 33) rfl rfl Tryz.func22 (by kernel_rfl) rfl #[.slice Ao5 x5_1.length co5] rfl (by (try simp only [List.map_toArray, List.map_cons, List.map_nil]); (rfl)) ?_; (with_reducible refine (rule_Check.calls _ _ x5_1 t108 _ ?side1 ?side2 A3.out ?sideT).mono ?_); (case side1 => exact (Kd.R_reads' (LS.R (by (exact HO_5.out)))).2.2); (case side2 => exact (Kd.R_reads' HO_5.out.R).2.1); (case sideT => exact (Tabs.keep HTT.out (by repeat ((with_reducible (exact HB.out))))).words); rintro e w6 ⟨rfl, hb⟩; refine ⟨_, rfl, ?_⟩; have n0_ := Aside0.mk (LS.below (by (exact HO_5.out)) hb); have n1_ := Aside0.mk (below_step (by repeat ((with_reducible (exact HB.out)))) hb); clear HO_5; clear HB; have HO_5 := n0_; have HB := n1_; clear n0_ n1_; (try clear hb)))
     go_ret3
     exact ⟨_, by (rfl), (LS.R (by (exact HO_5.out))), by repeat ((with_reducible (exact HB.out)))⟩
    ·rw [if_neg c4] at H
     have c4b0 : (t108 == 0) = false := beq_eq_false_iff_ne.mpr c4
     have c4b1 : (t108 != 0) = true := bne_iff_ne.mpr c4
     simp only [Option.some.injEq, Prod.mk.injEq] at H
     obtain ⟨rfl, rfl, rfl⟩ := H
     obtain ⟨Ao7, co7, eo7⟩ := Kd.R_slice HO_5.out.R
     subst eo7
     go_wp2_with (((with_reducible refine gate_callee (f := 22) rfl ?_); refine goesL_ (some 33) rfl rfl Tryz.func22 (by kernel_rfl) rfl #[.slice Ao7 x5_1.length co7] rfl (by (try simp only [List.map_toArray, List.map_cons, List.map_nil]); (rfl)) ?_; (with_reducible refine (rule_Check.calls _ _ x5_1 t108 _ ?side1 ?side2 A3.out ?sideT).mono ?_); (case side1 => exact (Kd.R_reads' (LS.R (by (exact HO_5.out)))).2.2); (case side2 => exact (Kd.R_reads' HO_5.out.R).2.1); (case sideT => exact (Tabs.keep HTT.out (by repeat ((with_reducible (exact HB.out))))).words); rintro e w8 ⟨rfl, hb⟩; refine ⟨_, rfl, ?_⟩; have n0_ := Aside0.mk (LS.below (by (exact HO_5.out)) hb); have n1_ := Aside0.mk (below_step (by repeat ((with_reducible (exact HB.out)))) hb); clear HO_5; clear HB; have HO_5 := n0_; have HB := n1_; clear n0_ n1_; (try clear hb)))
     go_ret3
     exact ⟨_, by (rfl), by (exact Kd.R_nil _ _ _ _ _), by repeat ((with_reducible (exact HB.out)))⟩
   ·rw [if_neg c2] at H
    have c2b0 : (x0_1.toList == ([] : List UInt8)) = false := beq_eq_false_iff_ne.mpr c2
    have c2b1 : (x0_1.toList != ([] : List UInt8)) = true := bne_iff_ne.mpr c2
    replace H := Option.bind_eq_some_iff.mp H
    obtain ⟨⟨t101, t102, t103⟩, A90, H⟩ := H
    replace H : (if t103 = true then ((rule_line.f k x5_1 t101).bind fun bt104 => (if bt104.2 = true then (rule_Read.l0 k k1 t102 bt104.1 (wrap64 (x6_1 + 1))) else (some (([] : List (S30)), x6_1, 120)))) else (some (([] : List (S30)), x6_1, 120))) = some (r1, r2, r3) := H
    have A9 := Aside0.mk A90
    clear A90
    by_cases c10 : t103 = true
    ·subst c10
     have H1 : ((rule_line.f k x5_1 t101).bind fun bt104 => (if bt104.2 = true then (rule_Read.l0 k k1 t102 bt104.1 (wrap64 (x6_1 + 1))) else (some (([] : List (S30)), x6_1, 120)))) = some (r1, r2, r3) := by rw [if_pos rfl] at H; exact H
     clear H
     have H := H1
     clear H1
     replace H := Option.bind_eq_some_iff.mp H
     obtain ⟨⟨t104, t105⟩, A110, H⟩ := H
     replace H : (if t105 = true then (rule_Read.l0 k k1 t102 t104 (wrap64 (x6_1 + 1))) else (some (([] : List (S30)), x6_1, 120))) = some (r1, r2, r3) := H
     have A11 := Aside0.mk A110
     clear A110
     by_cases c12 : t105 = true
     ·subst c12
      have H1 : (rule_Read.l0 k k1 t102 t104 (wrap64 (x6_1 + 1))) = some (r1, r2, r3) := by rw [if_pos rfl] at H; exact H
      clear H
      have H := H1
      clear H1
      have H' := Aside0.mk H
      clear H
      go_wp2_with (first | ((with_reducible refine gate_callee (f := 29) rfl ?_); refine goesL_ (some 17) rfl rfl Tryz.func29 (by kernel_rfl) rfl #[.string x0_1, .string (⟨#[10]⟩ : ByteArray)] rfl (by (try simp only [List.map_toArray, List.map_cons, List.map_nil]); (rfl)) ?_; (with_reducible refine (strings_Cut.calls x0_1 (⟨#[10]⟩ : ByteArray) t101 t102 true _ ?sideT A9.out).mono ?_); (case sideT => exact Tabs.keep HTT.out (by repeat ((with_reducible (exact HB.out))))); rintro e w13 ⟨rfl, hb⟩; refine ⟨_, rfl, ?_⟩; have n0_ := Aside0.mk (LS.below (by (exact HO_5.out)) hb); have n1_ := Aside0.mk (below_step (by repeat ((with_reducible (exact HB.out)))) hb); clear HO_5; clear HB; have HO_5 := n0_; have HB := n1_; clear n0_ n1_; (try clear hb); obtain ⟨Ao14, co14, eo14⟩ := Kd.R_slice HO_5.out.R; subst eo14) | ((with_reducible refine gate_callee (f := 30) rfl ?_); refine goesL_ (some 25) rfl rfl Tryz.func30 (by kernel_rfl) rfl #[.slice Ao14 x5_1.length co14, .string t101] rfl (by (try simp only [List.map_toArray, List.map_cons, List.map_nil]); (rfl)) ?_; (with_reducible refine (rule_line.calls k x5_1 t101 t104 true w.heap.size _ _ ?sideB ?sideL ?sideT A11.out).mono ?_); (case sideB => exact Below.size (by repeat ((with_reducible (exact HB.out))))); (case sideL => exact (by (exact HO_5.out))); (case sideT => exact Tabs.keep HTT.out (by repeat ((with_reducible (exact HB.out))))); rintro e w15 ⟨v106, rfl, ho0, hb⟩; refine ⟨_, rfl, ?_⟩; have n2_ := Aside0.mk (Below.trans (by repeat ((with_reducible (exact HB.out)))) hb); clear HO_5; clear HB; have HO_5 := Aside0.mk ho0; have HB := n2_; clear n2_ hb ho0))
      go_roundg k1
      case measure => have := HK1.out; omega
      case rel => exact ⟨(t102), (t104), (wrap64 (x6_1 + 1)), (by (rfl)), (by (rfl)), H', ⟨by have := HK1.out; omega⟩, ⟨(by (exact HO_5.out))⟩, ⟨by repeat ((with_reducible (exact HB.out)))⟩⟩
     ·replace c12 := Bool.eq_false_iff.mpr c12
      subst c12
      have H1 : (some (([] : List (S30)), x6_1, 120)) = some (r1, r2, r3) := by rw [if_neg (show ¬ (false = true) by decide)] at H; exact H
      clear H
      have H := H1
      clear H1
      simp only [Option.some.injEq, Prod.mk.injEq] at H
      obtain ⟨rfl, rfl, rfl⟩ := H
      go_wp2_with (first | ((with_reducible refine gate_callee (f := 29) rfl ?_); refine goesL_ (some 17) rfl rfl Tryz.func29 (by kernel_rfl) rfl #[.string x0_1, .string (⟨#[10]⟩ : ByteArray)] rfl (by (try simp only [List.map_toArray, List.map_cons, List.map_nil]); (rfl)) ?_; (with_reducible refine (strings_Cut.calls x0_1 (⟨#[10]⟩ : ByteArray) t101 t102 true _ ?sideT A9.out).mono ?_); (case sideT => exact Tabs.keep HTT.out (by repeat ((with_reducible (exact HB.out))))); rintro e w16 ⟨rfl, hb⟩; refine ⟨_, rfl, ?_⟩; have n0_ := Aside0.mk (LS.below (by (exact HO_5.out)) hb); have n1_ := Aside0.mk (below_step (by repeat ((with_reducible (exact HB.out)))) hb); clear HO_5; clear HB; have HO_5 := n0_; have HB := n1_; clear n0_ n1_; (try clear hb); obtain ⟨Ao17, co17, eo17⟩ := Kd.R_slice HO_5.out.R; subst eo17) | ((with_reducible refine gate_callee (f := 30) rfl ?_); refine goesL_ (some 25) rfl rfl Tryz.func30 (by kernel_rfl) rfl #[.slice Ao17 x5_1.length co17, .string t101] rfl (by (try simp only [List.map_toArray, List.map_cons, List.map_nil]); (rfl)) ?_; (with_reducible refine (rule_line.calls k x5_1 t101 t104 false w.heap.size _ _ ?sideB ?sideL ?sideT A11.out).mono ?_); (case sideB => exact Below.size (by repeat ((with_reducible (exact HB.out))))); (case sideL => exact (by (exact HO_5.out))); (case sideT => exact Tabs.keep HTT.out (by repeat ((with_reducible (exact HB.out))))); rintro e w15 ⟨v106, rfl, ho0, hb⟩; refine ⟨_, rfl, ?_⟩; have n2_ := Aside0.mk (Below.trans (by repeat ((with_reducible (exact HB.out)))) hb); clear HO_5; clear HB; have HO_5 := Aside0.mk ho0; have HB := n2_; clear n2_ hb ho0))
      go_ret3
      exact ⟨_, by (rfl), by (exact Kd.R_nil _ _ _ _ _), by repeat ((with_reducible (exact HB.out)))⟩
    ·replace c10 := Bool.eq_false_iff.mpr c10
     subst c10
     have H1 : (some (([] : List (S30)), x6_1, 120)) = some (r1, r2, r3) := by rw [if_neg (show ¬ (false = true) by decide)] at H; exact H
     clear H
     have H := H1
     clear H1
     simp only [Option.some.injEq, Prod.mk.injEq] at H
     obtain ⟨rfl, rfl, rfl⟩ := H
     go_wp2_with (((with_reducible refine gate_callee (f := 29) rfl ?_); refine goesL_ (some 17) rfl rfl Tryz.func29 (by kernel_rfl) rfl #[.string x0_1, .string (⟨#[10]⟩ : ByteArray)] rfl (by (try simp only [List.map_toArray, List.map_cons, List.map_nil]); (rfl)) ?_; (with_reducible refine (strings_Cut.calls x0_1 (⟨#[10]⟩ : ByteArray) t101 t102 false _ ?sideT A9.out).mono ?_); (case sideT => exact Tabs.keep HTT.out (by repeat ((with_reducible (exact HB.out))))); rintro e w19 ⟨rfl, hb⟩; refine ⟨_, rfl, ?_⟩; have n0_ := Aside0.mk (LS.below (by (exact HO_5.out)) hb); have n1_ := Aside0.mk (below_step (by repeat ((with_reducible (exact HB.out)))) hb); clear HO_5; clear HB; have HO_5 := n0_; have HB := n1_; clear n0_ n1_; (try clear hb)))
     go_ret3
     exact ⟨_, by (rfl), by (exact Kd.R_nil _ _ _ _ _), by repeat ((with_reducible (exact HB.out)))⟩
end Go.Proofs.YtjcipbdocbomjaaGreatDoor.K
