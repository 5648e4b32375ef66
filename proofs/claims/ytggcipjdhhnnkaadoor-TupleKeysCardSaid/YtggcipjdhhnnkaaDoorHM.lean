/- Lemmas of this claim's own proof; conditions: as each states. -/
import Derived.Test.YtggcipjdhhnnkaaDoorProg
import Derived.Test.YtggcipjdhhnnkaaDoorWMore
import Derived.WalkLawsBesides
import Derived.OneCell
import Derived.Lib.Hide
import Derived.Outline
import Derived.Test.YtggcipjdhhnnkaaDoorShelf
import Derived.Test.YtggcipjdhhnnkaaDoorPLM
namespace Go.Proofs.YtggcipjdhhnnkaaDoor.K
set_option linter.unusedVariables false
set_option linter.unusedSimpArgs false
open Go.RowKit Go.Proofs.YtggcipjdhhnnkaaDoorW.PrintWords Go.Proofs.YtggcipjdhhnnkaaDoorW.PrintLast Go.Proofs.YtggcipjdhhnnkaaDoorW.PrintMore
open Go.Proofs.YtggcipjdhhnnkaaDoor.PL
def cmpB (a b : List UInt8) : Int := if Op.bytesLess a b = true then -1 else if (Op.bytesLess a b || a == b) = true then 0 else 1
def cmp_Compare_string.f (a0 : ByteArray) (a1 : ByteArray) : Option Int := some (cmpB a0.toList a1.toList)
theorem isnan_any (a : ByteArray) (w : World) : Calls Tryd.prog 70 #[.string a] w fun e w' => e = .returned (.bool false) ∧ w = w' := by
  go_enter Tryd.func70, Tryd.ntmps70
  go_wp2
  go_ret
  exact ⟨by simp, rfl⟩
theorem cmp_Compare_string.calls (a0 : ByteArray) (a1 : ByteArray) (r : Int) (w : World) (h : cmp_Compare_string.f a0 a1 = some r) :
    Calls Tryd.prog 60 #[.string a0, .string a1] w fun e w' => e = .returned (.int .i64 r) ∧ Drawn0 w w' := by
  obtain rfl := Option.some.inj h
  by_cases h1 : Op.bytesLess a0.toList a1.toList = true
  · have hr : cmpB a0.toList a1.toList = -1 := by unfold cmpB; rw [if_pos h1]
    rw [hr]; clear hr h
    go_enter Tryd.func60, Tryd.ntmps60
    go_wp2_with (go_at_call 70; refine (isnan_any _ _).mono ?_; rintro e w' ⟨rfl, rfl⟩)
    go_ret
    exact ⟨rfl, Drawn0.refl _⟩
  · have h1' : Op.bytesLess a0.toList a1.toList = false := by simpa using h1
    by_cases h2 : (Op.bytesLess a0.toList a1.toList || a0.toList == a1.toList) = true
    · have hr : cmpB a0.toList a1.toList = 0 := by unfold cmpB; rw [if_neg h1, if_pos h2]
      rw [hr]; clear hr h h1
      have h3 : (a0.toList == a1.toList) = true := by simpa [h1'] using h2
      clear h2
      go_enter Tryd.func60, Tryd.ntmps60
      go_wp2_with (go_at_call 70; refine (isnan_any _ _).mono ?_; rintro e w' ⟨rfl, rfl⟩)
      go_ret
      exact ⟨rfl, Drawn0.refl _⟩
    · have hr : cmpB a0.toList a1.toList = 1 := by unfold cmpB; rw [if_neg h1, if_neg h2]
      rw [hr]; clear hr h h1
      have h3 : (a0.toList == a1.toList) = false := by simpa [h1'] using h2
      clear h2
      go_enter Tryd.func60, Tryd.ntmps60
      go_wp2_with (go_at_call 70; refine (isnan_any _ _).mono ?_; rintro e w' ⟨rfl, rfl⟩)
      go_ret
      exact ⟨rfl, Drawn0.refl _⟩

theorem alloc_new (w : World) (o : Obj) : (w.alloc o).heap[w.heap.size]? = some o := by show (w.heap.push o)[w.heap.size]? = some o; simp
/-- Only one block has been written. -/
structure Turn (w w' : World) (g : Nat) : Prop where
  os : w'.os = w.os
  tape : w'.tape = w.tape
  output : w'.output = w.output
  size : w'.heap.size = w.heap.size
  block : ∀ k, k ≠ g → w'.heap[k]? = w.heap[k]?
theorem Turn.refl (w : World) (g : Nat) : Turn w w g := ⟨rfl, rfl, rfl, rfl, fun _ _ => rfl⟩
theorem Turn.setCell (w : World) (a : Addr) (u : Value) : Turn w (w.setCell a u) a.block := ⟨rfl, rfl, rfl, by simp [World.setCell], fun k hk => Below.heap_setCell w a u k hk⟩
theorem Turn.below {w w' : World} {g B : Nat} (h : Turn w w' g) (hB : B ≤ g) : Below B w w' := ⟨h.os, h.tape, h.output, by rw [h.size]; exact Nat.le_refl _, fun k hk => h.block k (by omega)⟩
theorem Turn.keep {w w' : World} {g : Nat} (h : Turn w w' g) : KeepBut w w' g none := ⟨by rw [h.size]; exact Nat.le_refl _, fun k _ hk _ => h.block k hk⟩

def okB (s : ByteArray) (j : Nat) : Bool := decide (j < s.size)
def chB (s : ByteArray) (j : Nat) : Int := if j < s.size then bt s j else 0
def nx (s : ByteArray) (j : Nat) : Nat := if j < s.size then j + 1 else j
def cellI (w : World) (g : Nat) (i : Nat) : Prop := w.heap[g]? = some (.cells #[.int .i64 (i : Int)] 3 (0, 0))
def cellS (w : World) (g : Nat) (s : ByteArray) : Prop := w.heap[g]? = some (.cells #[.string s] 9 (0, 0))

theorem ret_byte {a b : Int} {x : Bool} (h : a = b) : Ending.returned (.tuple #[.int .u8 a, .bool x]) = Ending.returned (.tuple #[.int .u8 b, .bool x]) := by rw [h]
theorem next_any (s : ByteArray) (j bi bs : Nat) (w : World) (hi : cellI w bi j) (hs : cellS w bs s) (hne : bs ≠ bi) (hj : j ≤ s.size) (hsz : s.size ≤ 140737488355328) :
    Calls Tryd.prog 51 #[.pointer (some ⟨bi, 0, none⟩), .pointer (some ⟨bs, 0, none⟩)] w fun e w' => e = .returned (.tuple #[.int .u8 (chB s j), .bool (okB s j)]) ∧ Aside0 (cellI w' bi (nx s j) ∧ Turn w w' bi) := by
  by_cases hlt : j < s.size
  · have c1 := cell_of_one hi
    have f1 := free_of_one hi
    have c2 := cell_of_one hs
    have e1 : okB s j = true := decide_eq_true hlt
    have e2 : chB s j = ((s[j]).toNat : Int) := by unfold chB bt; rw [if_pos hlt]; simp [hlt]
    have e3 : nx s j = j + 1 := if_pos hlt
    rw [e1, e3]
    have E2 := Lib.hid e2
    have HI := Lib.hid hi
    clear hi hs e1 e2 e3
    go_enter Tryd.func51, Tryd.ntmps51
    go_wp2
    go_ret2
    refine ⟨ret_byte E2.out.symm, ⟨?_, Turn.setCell _ _ _⟩⟩
    have := one_setCell (u := .int .i64 ((j + 1 : Nat) : Int)) HI.out
    simpa [cellI] using this
  · have c1 := cell_of_one hi
    have c2 := cell_of_one hs
    have e1 : okB s j = false := decide_eq_false hlt
    have e2 : chB s j = 0 := if_neg hlt
    have e3 : nx s j = j := if_neg hlt
    rw [e1, e2, e3]
    have HI := Lib.hid hi
    have hge : s.size ≤ j := by omega
    clear hi hs e1 e2 e3
    go_enter Tryd.func51, Tryd.ntmps51
    go_wp2
    go_ret2
    exact ⟨rfl, HI.out, Turn.refl _ _⟩

theorem sizeBuilder : (Tryd.prog.info? 63).map (·.size) = some 2 := by kernel_rfl
theorem liesBuilder : liesAt Tryd.prog Tryd.prog.depth 63 (2 / Tryd.prog.cellsOf 63) 0 63 1 = true := by kernel_rfl
theorem infoByte : (Tryd.prog.info? 5).map (fun i => (i.zero, i.size, i.bytes)) = some (some (.int .u8 0), 1, 1) := by kernel_rfl

set_option maxHeartbeats 1000000 in
set_option maxRecDepth 100000 in
theorem copyCheck_used (b : Nat) (w : World) (h0 : w.cell? ⟨b, 0, none⟩ = some (.pointer (some ⟨b, 0, none⟩))) :
    Calls Tryd.prog 57 #[.pointer (some ⟨b, 0, none⟩)] w fun e w' => e = .returned (.tuple #[]) ∧ w' = w := by
  obtain ⟨j, hj, _⟩ := Option.map_eq_some_iff.1 sizeBuilder
  go_enter Tryd.func57, Tryd.ntmps57
  go_wp2
  rw [Lib.run_neq_ptr_same w _ Tryd.underlying61 hj]
  go_wp2
  go_end0
  exact ⟨rfl, rfl⟩
set_option maxHeartbeats 1000000 in
set_option maxRecDepth 100000 in
theorem copyCheck_fresh (b : Nat) (w : World) (h0 : w.cell? ⟨b, 0, none⟩ = some (.pointer none)) (hsh : w.shape? b = some (63, 2)) (hfz : w.frozen? ⟨b, 0, none⟩ = false) :
    Calls Tryd.prog 57 #[.pointer (some ⟨b, 0, none⟩)] w fun e w' => e = .returned (.tuple #[]) ∧ w' = w.setCell ⟨b, 0, none⟩ (.pointer (some ⟨b, 0, none⟩)) := by
  obtain ⟨j, hj, hjs⟩ := Option.map_eq_some_iff.1 sizeBuilder
  go_enter Tryd.func57, Tryd.ntmps57
  go_wp2
  rw [Lib.run_to_unsafe w ⟨b, 0, none⟩ Tryd.underlying61 Tryd.underlying74 hj (by rw [hjs]; decide) hsh (Nat.zero_lt_succ 1)]
  simp only [Result.andThen]
  rw [Oper.upon_value]
  go_wp2
  rw [run_callFunc_extern Tryd.func61 (by kernel_rfl) (by kernel_rfl) (by kernel_rfl) (e := Extern.AbiNoEscape.same) (by kernel_rfl)]
  rw [Lib.run_noEscape]
  simp only [Result.andThen]
  rw [Oper.upon_value]
  go_wp2
  rw [Lib.run_from_unsafe w ⟨b, 0, none⟩ Tryd.underlying74 Tryd.underlying61 hj hsh liesBuilder]
  simp only [Result.andThen]
  rw [Oper.upon_value]
  go_wp2
  go_end0
  exact ⟨rfl, rfl⟩
theorem copyCheck_any (B b : Nat) (bs : List Value) (w : World) (h : Lib.IsBuilder 63 5 B b bs w) :
    Calls Tryd.prog 57 #[.pointer (some ⟨b, 0, none⟩)] w fun e w' => e = .returned (.tuple #[]) ∧ (Lib.BuilderAt 63 5 B b (.pointer (some ⟨b, 0, none⟩)) bs w' ∧ Below B w w') := by
  rcases h with h | h
  · refine (copyCheck_fresh b w h.cell0 h.shape h.frozen0).mono ?_
    rintro e w' ⟨rfl, rfl⟩
    exact ⟨rfl, h.used _, (Below.refl B w).setCell (p := ⟨b, 0, none⟩) h.1 _⟩
  · refine (copyCheck_used b w h.cell0).mono ?_
    rintro e w' ⟨rfl, rfl⟩
    exact ⟨rfl, h, Below.refl B _⟩
set_option maxHeartbeats 2000000 in
set_option maxRecDepth 100000 in
theorem writeString (B b : Nat) (bs : List Value) (s : ByteArray) (w : World) (h : Lib.IsBuilder 63 5 B b bs w) (hlen : bs.length + s.size ≤ 140737488355328) (hBw : B ≤ w.heap.size) :
    Calls Tryd.prog 52 #[.pointer (some ⟨b, 0, none⟩), .string s] w fun e w' => e = .returned (.tuple #[.int .i64 s.size, .nilIface]) ∧ (Lib.BuilderAt 63 5 B b (.pointer (some ⟨b, 0, none⟩)) (bs ++ Lib.strCells s) w' ∧ Below B w w') := by
  obtain ⟨i0, hi, hz0, hz1, hz2⟩ := info_parts infoByte
  go_enter Tryd.func52, Tryd.ntmps52
  go_wp2_with (go_at_call 57; refine (copyCheck_any B b bs _ h).mono ?_)
  rintro e w1 ⟨rfl, h1, hb1⟩
  obtain ⟨hB, v, hbk, hown, hne⟩ := h1
  have c0 : w1.cell? ⟨b, 0, none⟩ = some (.pointer (some ⟨b, 0, none⟩)) := by rw [Lib.cell_of_heap hbk]; rfl
  have c1 : w1.cell? ⟨b, 1, none⟩ = some v := by rw [Lib.cell_of_heap hbk]; rfl
  go_wp2_with (at_builtin; refine Lib.wpList_append_own_string _ rfl _ _ 58 9 rfl B 5 i0 Tryd.underlying58 Tryd.underlying9 hi hz0 hz1 hz2 _ _ _ rfl hown s rfl ?c3 ?c4 ?c5 ?_)
  case c3 => unfold maxLen; omega
  case c4 => omega
  case c5 => have := hb1.size; omega
  intro v' w2 hown' hgrow _
  have hlt : b < w1.heap.size := by
    rcases Nat.lt_or_ge b w1.heap.size with h' | h'
    · exact h'
    · simp [Array.getElem?_eq_none h'] at hbk
  have hb2 : w2.heap[b]? = some (.cells #[.pointer (some ⟨b, 0, none⟩), v] 63 (0, 0)) := by
    rw [hgrow.block b hlt (fun e => hne e.symm)]
    exact hbk
  have d0 : w2.cell? ⟨b, 0, none⟩ = some (.pointer (some ⟨b, 0, none⟩)) := by rw [Lib.cell_of_heap hb2]; rfl
  have d1 : w2.cell? ⟨b, 1, none⟩ = some v := by rw [Lib.cell_of_heap hb2]; rfl
  have f1 : w2.frozen? ⟨b, 1, none⟩ = false := Lib.frozen_of_heap hb2 1
  obtain ⟨ao, n', cap, rfl⟩ : ∃ ao n' cap, v' = .slice ao n' cap := by
    rcases hown'.2 with ⟨hv, _⟩ | ⟨g, cap, cur, hv, _⟩
    · exact ⟨_, _, _, hv⟩
    · exact ⟨_, _, _, hv⟩
  go_wp2
  go_ret2
  refine ⟨rfl, ?_, ?_⟩
  · exact Lib.BuilderAt.put (T := 63) (e := 5) hB hb2 (bs' := bs ++ Lib.strCells s) (by simpa [Lib.strCells_length] using hown') (by decide)
  · exact (hb1.grown hgrow (by have := hb1.size; omega) (fun k hk => (hown.lt k hk).1)).setCell (p := ⟨b, 1, none⟩) hB _

/-- What Get comes to: the bytes that are left, the part that is open, the parts that stand. -/
def getI : List Int → List Int → List ByteArray → Option (List ByteArray)
  | [], part, acc => if part.length > 0 then none else some acc
  | c :: r, part, acc =>
    if c = 0 then
      match r with
      | [] => none
      | d :: r' => if d = 255 then getI r' (part ++ [0]) acc else if d = 0 then getI r' [] (acc ++ [strOfNums part]) else none
    else getI r (part ++ [c]) acc
def getR (r : Option (List ByteArray)) : List ByteArray × Int := match r with | some l => (l, 0) | none => ([], 10)
def key_Get.f (a0 : ByteArray) : Option (List ByteArray × Int) := if a0.size ≤ 1099511627776 then some (getR (getI (bytesOf a0) [] [])) else none

def restI (s : ByteArray) (j : Nat) : List Int := (bytesOf s).drop j
theorem rest_cons (s : ByteArray) (j : Nat) (h : j < s.size) : restI s j = bt s j :: restI s (j + 1) := by
  unfold restI
  have hl := bytesOf_length s
  rw [List.drop_eq_getElem_cons (by omega)]
  congr 1
  have := rd_bytesOf s j
  rw [← this]
  simp [rd, hl, h]
theorem rest_nil (s : ByteArray) (j : Nat) (h : s.size ≤ j) : restI s j = [] := by
  unfold restI
  rw [List.drop_eq_nil_iff, bytesOf_length]; exact h

/-- What holds at the head of Get's loop. -/
structure GetRel (s : ByteArray) (res : Option (List ByteArray)) (w : World) (bs bi B : Nat) (kq : Nat) (j : Nat) (part : List Int) (acc : List ByteArray) (v4 v5 : Value) (wr : World) : Prop where
  hj : j ≤ s.size
  hk : s.size - j < kq
  hs : cellS wr bs s
  hi : cellI wr bi (nx s j)
  hl : Kd.R Kd.string 9 wr B (fun _ => True) v4 acc
  hp : Kd.R (Kd.int .u8) 5 wr B (fun _ => True) v5 part
  hb : Below w.heap.size w wr
  hB : B ≤ wr.heap.size
  hla : acc.length ≤ j
  hlp : part.length ≤ j
  hres : getI (restI s j) part acc = res

theorem alloc_old (w : World) (o : Obj) (k : Nat) (h : k < w.heap.size) : (w.alloc o).heap[k]? = w.heap[k]? := Below.heap_alloc w o k h
theorem keep_rows {w w1 : World} {v4 v5 : Value} {acc : List ByteArray} {part : List Int} {B : Nat} (hl : Kd.R Kd.string 9 w B (fun _ => True) v4 acc) (hp : Kd.R (Kd.int .u8) 5 w B (fun _ => True) v5 part) (hg : w.grownBy w1 v5.ownBlock) : Kd.R Kd.string 9 w1 B (fun _ => True) v4 acc := by
  refine Kd.R_mono (Kd.R_grown (Kd.R_bound hl) hg (fun k hk he => ?_)) (fun _ _ => trivial)
  obtain ⟨_, _, _, q, hq, cells, hc⟩ := hk
  obtain ⟨inner, ho⟩ := Kd.R_own hp
  obtain ⟨cells', hc'⟩ := own_typed ho k he.symm
  rw [hc] at hc'
  injection hc' with hc'
  injection hc' with _ hc'
  have h9 : q = 9 := by simpa [Kd.string, Kd.scalar] using hq
  rw [h9] at hc'; exact absurd hc' (by decide)
theorem keep_rows' {w w1 : World} {v4 v5 : Value} {acc : List ByteArray} {part : List Int} {B : Nat} (hl : Kd.R Kd.string 9 w B (fun _ => True) v4 acc) (hp : Kd.R (Kd.int .u8) 5 w B (fun _ => True) v5 part) (hg : w.grownBy w1 v4.ownBlock) : Kd.R (Kd.int .u8) 5 w1 B (fun _ => True) v5 part := by
  refine Kd.R_mono (Kd.R_grown (Kd.R_bound hp) hg (fun k hk he => ?_)) (fun _ _ => trivial)
  obtain ⟨_, _, _, q, hq, cells, hc⟩ := hk
  obtain ⟨inner, ho⟩ := Kd.R_own hl
  obtain ⟨cells', hc'⟩ := own_typed ho k he.symm
  rw [hc] at hc'
  injection hc' with hc'
  injection hc' with _ hc'
  have h5 : q = 5 := by simpa [Kd.int, Kd.scalar] using hq
  rw [h5] at hc'; exact absurd hc' (by decide)
/-- A round's end: what was done, and the next byte is read. -/
theorem GetRel.next {s : ByteArray} {res : Option (List ByteArray)} {w : World} {bs bi B kq j2 : Nat} {part : List Int} {acc : List ByteArray} {v4 v5 : Value} {w1 w2 : World}
    (hbi : bi < B) (hne : bs ≠ bi) (hw : w.heap.size ≤ bi) (hj : j2 ≤ s.size) (hk : s.size - j2 < kq) (hs : cellS w1 bs s)
    (hl : Kd.R Kd.string 9 w1 B (fun _ => True) v4 acc) (hp : Kd.R (Kd.int .u8) 5 w1 B (fun _ => True) v5 part) (hb : Below w.heap.size w w1) (hB : B ≤ w1.heap.size)
    (hla : acc.length ≤ j2) (hlp : part.length ≤ j2) (hres : getI (restI s j2) part acc = res)
    (hi2 : cellI w2 bi (nx s j2)) (ht : Turn w1 w2 bi) : GetRel s res w bs bi B kq j2 part acc v4 v5 w2 := by
  refine { hj := hj, hk := hk, hs := ?_, hi := hi2, hl := ?_, hp := ?_, hb := hb.trans (ht.below hw), hB := by rw [ht.size]; exact hB, hla := hla, hlp := hlp, hres := hres }
  · unfold cellS; rw [ht.block bs hne]; exact hs
  · refine Kd.R_mono (Kd.R_keep (Kd.R_bound hl) ht.keep (fun k hk => ?_)) (fun _ _ => trivial)
    have := hk.2.1; omega
  · refine Kd.R_mono (Kd.R_keep (Kd.R_bound hp) ht.keep (fun k hk => ?_)) (fun _ _ => trivial)
    have := hk.2.1; omega
theorem cellS_below {w w1 : World} {g B : Nat} {s : ByteArray} (h : cellS w g s) (hb : Below B w w1) (hg : g < B) : cellS w1 g s := by unfold cellS; rw [hb.block g hg]; exact h
theorem cellI_below {w w1 : World} {g B : Nat} {i : Nat} (h : cellI w g i) (hb : Below B w w1) (hg : g < B) : cellI w1 g i := by unfold cellI; rw [hb.block g hg]; exact h
theorem cellS_turn {w w1 : World} {g b : Nat} {s : ByteArray} (h : cellS w g s) (hb : Turn w w1 b) (hg : g ≠ b) : cellS w1 g s := by unfold cellS; rw [hb.block g hg]; exact h
theorem R_turn {α : Type} {d : Kd α} {e : Nat} {w w1 : World} {B g : Nat} {v : Value} {xs : List α} (h : d.R e w B (fun _ => True) v xs) (ht : Turn w w1 g) (hg : g < B) : d.R e w1 B (fun _ => True) v xs := by
  refine Kd.R_mono (Kd.R_keep (Kd.R_bound h) ht.keep (fun k hk => ?_)) (fun _ _ => trivial)
  have := hk.2.1; omega
theorem get_byte {s : ByteArray} {j : Nat} {part : List Int} {acc : List ByteArray} {res : Option (List ByteArray)} (h : getI (restI s j) part acc = res) (hlt : j < s.size) (hc : ¬ bt s j = 0) : getI (restI s (j + 1)) (part ++ [chB s j]) acc = res := by
  rw [rest_cons s j hlt] at h
  rw [show chB s j = bt s j from if_pos hlt]
  unfold getI at h
  rw [if_neg hc] at h
  exact h
theorem get_end {s : ByteArray} {j : Nat} {part : List Int} {acc : List ByteArray} {res : Option (List ByteArray)} (h : getI (restI s j) part acc = res) (hlt : j < s.size) (hc : bt s j = 0) (h1 : ¬ j + 1 < s.size) : res = none := by
  rw [rest_cons s j hlt, rest_nil s (j + 1) (by omega)] at h
  simpa [getI, hc] using h.symm
theorem get_zero {s : ByteArray} {j : Nat} {part : List Int} {acc : List ByteArray} {res : Option (List ByteArray)} (h : getI (restI s j) part acc = res) (hlt : j < s.size) (hc : bt s j = 0) (h1 : j + 1 < s.size) (hd : bt s (j + 1) = 255) : getI (restI s (j + 2)) (part ++ [0]) acc = res := by
  rw [rest_cons s j hlt, rest_cons s (j + 1) h1] at h
  simpa [getI, hc, hd] using h
theorem get_part {s : ByteArray} {j : Nat} {part : List Int} {acc : List ByteArray} {res : Option (List ByteArray)} (h : getI (restI s j) part acc = res) (hlt : j < s.size) (hc : bt s j = 0) (h1 : j + 1 < s.size) (hd : bt s (j + 1) = 0) : getI (restI s (j + 2)) [] (acc ++ [strOfNums part]) = res := by
  rw [rest_cons s j hlt, rest_cons s (j + 1) h1] at h
  simpa [getI, hc, hd] using h
theorem get_bad {s : ByteArray} {j : Nat} {part : List Int} {acc : List ByteArray} {res : Option (List ByteArray)} (h : getI (restI s j) part acc = res) (hlt : j < s.size) (hc : bt s j = 0) (h1 : j + 1 < s.size) (hd : ¬ bt s (j + 1) = 255) (hd2 : ¬ bt s (j + 1) = 0) : res = none := by
  rw [rest_cons s j hlt, rest_cons s (j + 1) h1] at h
  simpa [getI, hc, hd, hd2] using h.symm
theorem get_open {s : ByteArray} {j : Nat} {part : List Int} {acc : List ByteArray} {res : Option (List ByteArray)} (h : getI (restI s j) part acc = res) (hlt : ¬ j < s.size) (hp : 0 < part.length) : res = none := by
  rw [rest_nil s j (by omega)] at h
  unfold getI at h
  rw [if_pos hp] at h
  exact h.symm
theorem get_done {s : ByteArray} {j : Nat} {part : List Int} {acc : List ByteArray} {res : Option (List ByteArray)} (h : getI (restI s j) part acc = res) (hlt : ¬ j < s.size) (hp : ¬ 0 < part.length) : res = some acc := by
  rw [rest_nil s j (by omega)] at h
  unfold getI at h
  rw [if_neg hp] at h
  exact h.symm

theorem hinfo5 : (Tryd.prog.info? 5).map (fun i => (i.zero, i.size, i.bytes)) = some (some (.int .u8 0), 1, 1) := by kernel_rfl
theorem hinfo9 : (Tryd.prog.info? 9).map (fun i => (i.zero, i.size, i.bytes)) = some (some (.string ⟨#[]⟩), 1, 16) := by kernel_rfl

set_option maxHeartbeats 1000000 in
set_option maxRecDepth 100000 in
theorem get_any (s : ByteArray) (w : World) (hsz : s.size ≤ 1099511627776) :
    Calls Tryd.prog 35 #[.string s] w fun e w' => ∃ v0_ : Value, e = .returned (.tuple #[v0_, .int .i64 (getR (getI (bytesOf s) [] [])).2]) ∧ Kd.R Kd.string 9 w' w.heap.size (fun _ => True) v0_ (getR (getI (bytesOf s) [] [])).1 ∧ Below w.heap.size w w' := by
  obtain ⟨res, hres⟩ : ∃ res, getI (bytesOf s) [] [] = res := ⟨_, rfl⟩
  rw [hres]
  have HRES := Aside0.mk hres
  clear hres
  have hsz' : s.size ≤ 140737488355328 := by omega
  go_enter Tryd.func35, Tryd.ntmps35
  go_wp2_with fail
  have h0i : cellI ((w.alloc (.cells #[.string s] 9 (0, 0))).alloc (.cells #[.int .i64 ((0 : Nat) : Int)] 3 (0, 0))) (w.heap.size + 1) 0 := by
    have := alloc_new (w.alloc (.cells #[.string s] 9 (0, 0))) (.cells #[.int .i64 ((0 : Nat) : Int)] 3 (0, 0)); simpa [cellI] using this
  have h0s : cellS ((w.alloc (.cells #[.string s] 9 (0, 0))).alloc (.cells #[.int .i64 ((0 : Nat) : Int)] 3 (0, 0))) w.heap.size s := by
    unfold cellS; rw [alloc_old _ _ _ (by simp)]; exact alloc_new _ _
  refine (next_any s 0 (w.heap.size + 1) w.heap.size _ h0i h0s (by omega) (by omega) hsz').mono ?_
  rintro e w1 ⟨rfl, h1⟩
  have hB1 : Below w.heap.size w w1 := ((((Below.refl _ _).alloc (Nat.le_refl _) _).alloc (by simp) _).trans (h1.out.2.below (by omega)))
  have hs1 : w1.heap.size = w.heap.size + 2 := by rw [h1.out.2.size]; simp
  have hR1 : Aside0 (GetRel s res w w.heap.size (w.heap.size + 1) (w.heap.size + 2) (s.size + 1) 0 [] [] (.slice none 0 0) (.slice none 0 0) w1) := ⟨{
    hj := by omega, hk := by omega
    hs := by
      have h2 := h1.out.2.block w.heap.size (by omega)
      unfold cellS; rw [h2]; exact h0s
    hi := h1.out.1
    hl := Kd.R_nil _ _ _ _ _
    hp := Kd.R_nil _ _ _ _ _
    hb := hB1
    hB := by omega
    hla := by simp
    hlp := by simp
    hres := by simpa [restI] using HRES.out }⟩
  clear h1 hB1 hs1 h0i h0s HRES
  go_wp2_with fail
  go_loopg [4, 5, 8, 9] (s.size + 1) (fun kq v4 v5 v8 v9 wr => ∃ (j : Nat) (part : List Int) (acc : List ByteArray), v8 = .int .u8 (chB s j) ∧ v9 = .bool (okB s j) ∧ Aside0 (GetRel s res w w.heap.size (w.heap.size + 1) (w.heap.size + 2) kq j part acc v4 v5 wr))
  case atStart => exact ⟨0, [], [], rfl, rfl, hR1⟩
  case round =>
    clear hR1
    obtain ⟨j, part, acc, rfl, hv9, HR⟩ := hrel
    cases gk with
    | zero => exact absurd HR.out.hk (by omega)
    | succ k1 =>
    by_cases hlt : j < s.size
    · have hok : okB s j = true := decide_eq_true hlt
      rw [hok] at hv9
      subst hv9
      clear hok
      have hch : chB s j = bt s j := if_pos hlt
      have hnx : nx s j = j + 1 := if_pos hlt
      have HI := HR.out.hi
      rw [hnx] at HI
      have HI := Aside0.mk HI
      clear hnx
      by_cases hc : bt s j = 0
      · have hc1 : (chB s j != 0) = false := by rw [hch]; simpa using hc
        have HC := Lib.hid hc
        clear hch hc
        go_wp2_with fail
        refine (next_any s (j + 1) (w.heap.size + 1) w.heap.size _ HI.out HR.out.hs (by omega) (by omega) hsz').mono ?_
        by_cases h1 : j + 1 < s.size
        · have hok2 : okB s (j + 1) = true := decide_eq_true h1
          have hch2 : chB s (j + 1) = bt s (j + 1) := if_pos h1
          have hnx2 : nx s (j + 1) = j + 2 := if_pos h1
          rw [hok2, hnx2]
          rintro e w2 ⟨rfl, h2⟩
          clear hok2 hnx2
          by_cases hd : bt s (j + 1) = 255
          · have hd1 : (chB s (j + 1) == 255) = true := by rw [hch2]; simpa using hd
            have HD := Lib.hid hd
            clear hch2 hd
            go_wp2_with (first
              | ((with_reducible refine gate_builtin (b := .append) (xs := #[.tmp 41, .tmp 42]) rfl ?_); at_builtin; refine Kd.R_append (Kd.int .u8) (w0 := w2) (w.heap.size + 2) rfl (.tmp 41) (.tmp 42) 58 5 (.int .u8 0) 1 rfl Tryd.underlying58 hinfo5 rfl (by decide) (by decide) u5 part 0 [.int .u8 0] (fun _ => True) (fun _ => False) rfl rfl rfl (fun _ hk => hk.elim) (fun _ _ => trivial) (R_turn HR.out.hp h2.out.2 (by omega)) (Below.refl _ _) ?aS ?aL ?_; (case aS => have := HR.out.hB; rw [h2.out.2.size]; exact this); (case aL => have := HR.out.hlp; omega); intro v1 w3 ho hb hg hat; have H1 := Aside0.mk (And.intro ho (And.intro hb hg)); clear ho hb hg hat))
            have HB3 : w.heap.size + 2 ≤ w3.heap.size := by have := H1.out.2.1.size; have := h2.out.2.size; have := HR.out.hB; omega
            refine (next_any s (j + 2) (w.heap.size + 1) w.heap.size _ (cellI_below h2.out.1 H1.out.2.1 (by omega)) (cellS_below (cellS_turn HR.out.hs h2.out.2 (by omega)) H1.out.2.1 (by omega)) (by omega) (by omega) hsz').mono ?_
            rintro e w4 ⟨rfl, h4⟩
            have HR2 : Aside0 (GetRel s res w w.heap.size (w.heap.size + 1) (w.heap.size + 2) k1 (j + 2) (part ++ [0]) acc u4 v1 w4) :=
              ⟨GetRel.next (by omega) (by omega) (by omega) (by omega) (by have := HR.out.hk; omega) (cellS_below (cellS_turn HR.out.hs h2.out.2 (by omega)) H1.out.2.1 (by omega))
                (keep_rows (R_turn HR.out.hl h2.out.2 (by omega)) (R_turn HR.out.hp h2.out.2 (by omega)) H1.out.2.2) H1.out.1 ((HR.out.hb.trans (h2.out.2.below (by omega))).trans (H1.out.2.1.mono (by omega))) HB3
                (by have := HR.out.hla; omega) (by rw [List.length_append, List.length_singleton]; have := HR.out.hlp; omega) (get_zero HR.out.hres hlt HC.out h1 HD.out) h4.out.1 h4.out.2⟩
            clear HR H1 h2 h4 HB3 HI
            go_wp2
            go_roundg k1
            case measure => omega
            case rel => exact ⟨j + 2, _, acc, rfl, rfl, HR2⟩
          · have hd1 : (chB s (j + 1) == 255) = false := by rw [hch2]; simpa using hd
            have HD := Lib.hid hd
            by_cases hd2 : bt s (j + 1) = 0
            · have hd3 : (chB s (j + 1) == 0) = true := by rw [hch2]; simpa using hd2
              have HD2 := Lib.hid hd2
              clear hch2 hd hd2
              have HP2 := Aside0.mk (R_turn HR.out.hp h2.out.2 (by omega : w.heap.size + 1 < w.heap.size + 2))
              have hcv := own_string (P := Tryd.prog) Tryd.underlying58 Tryd.underlying5 Tryd.underlying9 (Kd.own_of_R HP2.out)
              go_wp2_with (first
                | ((with_reducible refine gate_builtin (b := .append) (xs := #[.tmp 50, .tmp 53]) rfl ?_); at_builtin; refine Kd.R_append Kd.string (w0 := w2) (w.heap.size + 2) rfl (.tmp 50) (.tmp 53) 36 9 (.string ⟨#[]⟩) 16 rfl Tryd.underlying36 hinfo9 rfl (by decide) (by decide) u4 acc (strOfNums part) [.string (strOfNums part)] (fun _ => True) (fun _ => False) rfl rfl rfl (fun _ hk => hk.elim) (fun _ _ => trivial) (R_turn HR.out.hl h2.out.2 (by omega)) (Below.refl _ _) ?aS ?aL ?_; (case aS => have := HR.out.hB; rw [h2.out.2.size]; exact this); (case aL => have := HR.out.hla; omega); intro v1 w3 ho hb hg hat; have H1 := Aside0.mk (And.intro ho (And.intro hb hg)); clear ho hb hg hat hcv))
              have HB3 : w.heap.size + 2 ≤ w3.heap.size := by have := H1.out.2.1.size; have := h2.out.2.size; have := HR.out.hB; omega
              refine (next_any s (j + 2) (w.heap.size + 1) w.heap.size _ (cellI_below h2.out.1 H1.out.2.1 (by omega)) (cellS_below (cellS_turn HR.out.hs h2.out.2 (by omega)) H1.out.2.1 (by omega)) (by omega) (by omega) hsz').mono ?_
              rintro e w4 ⟨rfl, h4⟩
              have HR2 : Aside0 (GetRel s res w w.heap.size (w.heap.size + 1) (w.heap.size + 2) k1 (j + 2) [] (acc ++ [strOfNums part]) v1 (.slice none 0 0) w4) :=
                ⟨GetRel.next (by omega) (by omega) (by omega) (by omega) (by have := HR.out.hk; omega) (cellS_below (cellS_turn HR.out.hs h2.out.2 (by omega)) H1.out.2.1 (by omega))
                  H1.out.1 (Kd.R_nil _ _ _ _ _) ((HR.out.hb.trans (h2.out.2.below (by omega))).trans (H1.out.2.1.mono (by omega))) HB3
                  (by rw [List.length_append, List.length_singleton]; have := HR.out.hla; omega) (by simp) (get_part HR.out.hres hlt HC.out h1 HD2.out) h4.out.1 h4.out.2⟩
              clear HR H1 h2 h4 HB3 HI HP2
              go_wp2
              go_roundg k1
              case measure => omega
              case rel => exact ⟨j + 2, _, _, rfl, rfl, HR2⟩
            · have hd3 : (chB s (j + 1) == 0) = false := by rw [hch2]; simpa using hd2
              have HD2 := Lib.hid hd2
              clear hch2 hd hd2
              have hn := get_bad HR.out.hres hlt HC.out h1 HD.out HD2.out
              subst hn
              have HB2 := Aside0.mk (HR.out.hb.trans (h2.out.2.below (by omega)))
              clear HR h2 HI
              go_wp2
              go_ret2
              exact ⟨_, rfl, Kd.R_nil _ _ _ _ _, HB2.out⟩
        · have hok2 : okB s (j + 1) = false := decide_eq_false h1
          have hch2 : chB s (j + 1) = 0 := if_neg h1
          rw [hok2, hch2]
          rintro e w2 ⟨rfl, h2⟩
          clear hok2 hch2
          have hn := get_end HR.out.hres hlt HC.out h1
          subst hn
          have HB2 := Aside0.mk (HR.out.hb.trans (h2.out.2.below (by omega)))
          clear HR h2 HI
          go_wp2
          go_ret2
          exact ⟨_, rfl, Kd.R_nil _ _ _ _ _, HB2.out⟩
      · have hc1 : (chB s j != 0) = true := by rw [hch]; simpa using hc
        have HC := Lib.hid hc
        clear hch hc
        go_wp2_with (first
          | ((with_reducible refine gate_builtin (b := .append) (xs := #[.tmp 26, .tmp 28]) rfl ?_); at_builtin; refine Kd.R_append (Kd.int .u8) (w0 := wr) (w.heap.size + 2) rfl (.tmp 26) (.tmp 28) 58 5 (.int .u8 0) 1 rfl Tryd.underlying58 hinfo5 rfl (by decide) (by decide) u5 part (chB s j) [.int .u8 (chB s j)] (fun _ => True) (fun _ => False) rfl rfl rfl (fun _ hk => hk.elim) (fun _ _ => trivial) HR.out.hp (Below.refl _ _) ?aS ?aL ?_; (case aS => exact HR.out.hB); (case aL => have := HR.out.hlp; omega); intro v1 w1 ho hb hg hat; have H1 := Aside0.mk (And.intro ho (And.intro hb hg)); clear ho hb hg hat))
        have HB1 : w.heap.size + 2 ≤ w1.heap.size := by have := H1.out.2.1.size; have := HR.out.hB; omega
        refine (next_any s (j + 1) (w.heap.size + 1) w.heap.size _ (cellI_below HI.out H1.out.2.1 (by omega)) (cellS_below HR.out.hs H1.out.2.1 (by omega)) (by omega) (by omega) hsz').mono ?_
        rintro e w2 ⟨rfl, h2⟩
        have HR2 : Aside0 (GetRel s res w w.heap.size (w.heap.size + 1) (w.heap.size + 2) k1 (j + 1) (part ++ [chB s j]) acc u4 v1 w2) :=
          ⟨GetRel.next (by omega) (by omega) (by omega) (by omega) (by have := HR.out.hk; omega) (cellS_below HR.out.hs H1.out.2.1 (by omega))
            (keep_rows HR.out.hl HR.out.hp H1.out.2.2) H1.out.1 (HR.out.hb.trans (H1.out.2.1.mono (by omega))) HB1
            (by have := HR.out.hla; omega) (by rw [List.length_append, List.length_singleton]; have := HR.out.hlp; omega) (get_byte HR.out.hres hlt HC.out) h2.out.1 h2.out.2⟩
        clear HR H1 h2 HB1 HI
        go_wp2
        go_roundg k1
        case measure => omega
        case rel => exact ⟨j + 1, _, acc, rfl, rfl, HR2⟩
    · have hok : okB s j = false := decide_eq_false hlt
      rw [hok] at hv9
      subst hv9
      clear hok
      obtain ⟨A, c, rfl, hcc, hpC⟩ := Kd.R_reads HR.out.hp
      clear hpC
      by_cases hpl : 0 < part.length
      · have hd : decide (0 < part.length) = true := decide_eq_true hpl
        have hn := get_open HR.out.hres hlt hpl
        subst hn
        have HB2 := Aside0.mk HR.out.hb
        clear HR
        go_wp2
        go_ret2
        exact ⟨_, rfl, Kd.R_nil _ _ _ _ _, HB2.out⟩
      · have hd : decide (0 < part.length) = false := decide_eq_false hpl
        have hn := get_done HR.out.hres hlt hpl
        subst hn
        go_wp2
        go_ret2
        exact ⟨_, rfl, Kd.R_lower HR.out.hl (by omega), HR.out.hb⟩
theorem key_Get.calls (a0 : ByteArray) (r1 : List ByteArray) (r2 : Int) (w : World) (h : key_Get.f a0 = some (r1, r2)) :
    Calls Tryd.prog 35 #[.string a0] w fun e w' => ∃ v0_ : Value, e = .returned (.tuple #[v0_, .int .i64 r2]) ∧ Kd.R Kd.string 9 w' w.heap.size (fun _ => True) v0_ r1 ∧ Below w.heap.size w w' := by
  unfold key_Get.f at h
  by_cases hs : a0.size ≤ 1099511627776
  · rw [if_pos hs] at h
    have h2 := Option.some.inj h
    have e1 : r1 = (getR (getI (bytesOf a0) [] [])).1 := by rw [h2]
    have e2 : r2 = (getR (getI (bytesOf a0) [] [])).2 := by rw [h2]
    rw [e1, e2]
    exact get_any a0 w hs
  · rw [if_neg hs] at h
    cases h

theorem dl (s : ByteArray) : s.data.toList.length = s.size := data_length s
theorem builder_below {B b : Nat} {bs : List Value} {w w1 : World} (h : Lib.IsBuilder 63 5 B b bs w) (hb : Below w.heap.size w w1) : Lib.IsBuilder 63 5 B b bs w1 := by
  have step : ∀ p, Lib.BuilderAt 63 5 B b p bs w → Lib.BuilderAt 63 5 B b p bs w1 := by
    rintro p ⟨hB, v, hbk, hown, hne⟩
    have hlt := lt_of_block hbk
    exact ⟨hB, v, by rw [hb.block b hlt]; exact hbk, own_move hown (fun k hk => hb.block k (own_lt hown k hk)), hne⟩
  exact h.imp (step _) (step _)
set_option maxHeartbeats 4000000 in
set_option maxRecDepth 100000 in
/-- strings.Replace of each 0 by 0 and 255, where there is one. -/
theorem replace_some (s : ByteArray) (w : World) (hs : s.size ≤ 1099511627776) (hc0 : s.data.toList.count 0 ≠ 0) :
    Calls Tryd.prog 58 #[.string s, .string ⟨#[0]⟩, .string ⟨#[0, 255]⟩, .int .i64 (-1)] w fun e w' => e = .returned (.string ⟨(escL s.data.toList).toArray⟩) ∧ Below w.heap.size w w' := by
  have hC := Tryd.strings_Count_one s 0 w
  have hcle : s.data.toList.count 0 ≤ s.size := by rw [← dl s]; exact List.count_le_length
  unfold Lib.countByte at hC
  obtain ⟨K, hK⟩ : ∃ K : Nat, s.data.toList.count 0 = K := ⟨_, rfl⟩
  rw [hK] at hC hcle hc0
  have HK := Aside0.mk hK
  clear hK
  have hcz : ((K : Int) == 0) = false := beq_eq_false_iff_ne.2 (by omega)
  go_enter Tryd.func58, Tryd.ntmps58
  go_wp2_with (first | (go_at_call 62; refine hC.mono ?_; rintro e w' ⟨rfl, hw⟩; rw [hw]))
  clear hC hcz
  rw [show (s.size : Int) + (K : Int) = ((s.size + K : Nat) : Int) by omega]
  refine (Tryd.Builder_Grow_fresh w.heap.size w.heap.size (s.size + K) _ (Nat.le_refl _) (alloc_new w _) (by simp) (by omega)).mono ?_
  rintro e w1 ⟨rfl, hb0, hb1⟩
  have H1 := Aside0.mk (Or.inr hb0 : Lib.IsBuilder 63 5 w.heap.size w.heap.size (Lib.byteCells []) w1)
  have Hb1 := Aside0.mk (((Below.refl w.heap.size w).alloc (Nat.le_refl _) _).trans hb1)
  clear hb0 hb1
  go_wp2_with fail
  go_loopg [11, 12, 53] K (fun g s11 s12 s53 wx => ∃ (i start : Nat) (acc : List UInt8), s53 = .int .i64 i ∧ s11 = .int .i64 start ∧ i + g = K ∧ start ≤ s.size ∧
      Aside0 (Lib.IsBuilder 63 5 w.heap.size w.heap.size (Lib.byteCells acc) wx) ∧ Aside0 (Below w.heap.size w wx) ∧ Aside0 (acc ++ escL (s.data.toList.drop start) = escL s.data.toList) ∧
      Aside0 ((s.data.toList.drop start).count 0 = g) ∧ acc.length + (s.size - start) + g ≤ s.size + K)
  case atStart => exact ⟨0, 0, [], rfl, rfl, by omega, Nat.zero_le _, H1, Hb1, ⟨rfl⟩, ⟨HK.out⟩, by simp⟩
  case round =>
    clear H1 Hb1
    obtain ⟨i, start, acc, rfl, rfl, hig, hst, HB, HW, HR, HG, hbd⟩ := hrel
    have hBw : w.heap.size ≤ wr.heap.size := HW.out.size
    have c1 : (0 : Int) ≤ (start : Int) := by omega
    have c2 : (start : Int) ≤ (s.size : Int) := by omega
    cases gk with
    | zero =>
      have hiK : ¬ ((i : Int) < (K : Int)) := by omega
      go_wp2_with fail
      refine (writeString w.heap.size w.heap.size _ _ wr HB.out (by rw [Lib.byteCells_length, ByteArray.size_extract]; omega) hBw).mono ?_
      rintro e w3 ⟨rfl, h3, hb3⟩
      rw [Lib.strCells_eq, Lib.extract_to_end, ← Lib.byteCells_append] at h3
      have hfin : acc ++ s.data.toList.drop start = escL s.data.toList := by rw [← HR.out, no_zero HG.out]
      rw [hfin] at h3
      have H3 := Aside0.mk (Or.inr h3 : Lib.IsBuilder 63 5 w.heap.size w.heap.size _ w3)
      have Hb3 := Aside0.mk (HW.out.trans hb3)
      have hBw3 : w.heap.size ≤ w3.heap.size := Hb3.out.size
      clear h3 hb3 hfin
      go_wp2_with fail
      refine (Tryd.Builder_String_any w.heap.size w.heap.size _ w3 H3.out hBw3).mono ?_
      rintro e w5 ⟨rfl, hb5⟩
      have Hb5 := Aside0.mk (Hb3.out.trans hb5)
      clear hb5
      go_wp2
      go_ret
      exact ⟨rfl, Hb5.out⟩
    | succ g =>
      have hiK : (i : Int) < (K : Int) := by omega
      obtain ⟨j, hj, hjl, hesc, hcnt⟩ := first_zero (l := s.data.toList.drop start) (by rw [HG.out]; omega)
      rw [List.length_drop, dl s] at hjl
      rw [HG.out] at hcnt
      rw [List.drop_drop] at hesc hcnt
      have c3 : (start : Int) ≤ (start : Int) + (j : Int) := by omega
      have c4 : (start : Int) + (j : Int) ≤ (s.size : Int) := by omega
      have htl : ((s.data.toList.drop start).take j).length = j := by rw [List.length_take, List.length_drop, dl s]; omega
      have Hn : Aside0 (Lib.byteCells acc ++ Lib.strCells (s.extract start (start + j)) ++ Lib.strCells ⟨#[0, 255]⟩ = Lib.byteCells (acc ++ (s.data.toList.drop start).take j ++ [0, 255])) := ⟨by
        rw [Lib.strCells_eq, Lib.strCells_eq, Lib.extract_data, Nat.add_sub_cancel_left, ← Lib.byteCells_append, ← Lib.byteCells_append]⟩
      have Hrep : Aside0 ((acc ++ (s.data.toList.drop start).take j ++ [0, 255]) ++ escL (s.data.toList.drop (start + (j + 1))) = escL s.data.toList) := ⟨by
        rw [← HR.out, hesc]; simp only [List.append_assoc]⟩
      have Hcnt : Aside0 ((s.data.toList.drop (start + (j + 1))).count 0 = g) := ⟨by omega⟩
      have HJ := Lib.hid hj
      have Htl := Lib.hid htl
      clear hesc hcnt HR hj htl HG
      go_wp2_with (first | (go_at_call 64; refine (Tryd.strings_Index_one _ _ _).mono ?_; rintro e w' ⟨rfl, hw⟩; rw [hw, Lib.extract_to_end, HJ.out]))
      refine (writeString w.heap.size w.heap.size _ (s.extract start (start + j)) wr HB.out (by rw [Lib.byteCells_length, ByteArray.size_extract]; omega) hBw).mono ?_
      rintro e w3 ⟨rfl, h3, hb3⟩
      have hBw3 : w.heap.size ≤ w3.heap.size := Nat.le_trans hBw hb3.size
      have H3 := Aside0.mk h3
      have Hb3 := Aside0.mk hb3
      clear h3 hb3
      go_wp2_with fail
      refine (writeString w.heap.size w.heap.size _ ⟨#[0, 255]⟩ w3 (Or.inr H3.out) (by rw [List.length_append, Lib.byteCells_length, Lib.strCells_length, ByteArray.size_extract]; show _ + 2 ≤ _; omega) hBw3).mono ?_
      rintro e w4 ⟨rfl, h4, hb4⟩
      rw [Hn.out] at h4
      have H4 := Aside0.mk (Or.inr h4 : Lib.IsBuilder 63 5 w.heap.size w.heap.size _ w4)
      have Hb4 := Aside0.mk ((HW.out.trans Hb3.out).trans hb4)
      clear h4 hb4
      go_wp2
      go_roundg g
      case measure => omega
      case rel => exact ⟨i + 1, start + (j + 1), _, by first | rfl | (simp; unfold wrap64; omega), by first | rfl | (simp; done) | (congr 1; omega), by omega, by omega, H4, Hb4, Hrep, Hcnt, by simp only [List.length_append, Htl.out, List.length_cons, List.length_nil]; omega⟩
set_option maxHeartbeats 1000000 in
theorem replace_absent (s : ByteArray) (w : World) (hc0 : s.data.toList.count 0 = 0) :
    Calls Tryd.prog 58 #[.string s, .string ⟨#[0]⟩, .string ⟨#[0, 255]⟩, .int .i64 (-1)] w fun e w' => e = .returned (.string s) ∧ w' = w := by
  have hC := Tryd.strings_Count_one s 0 w
  unfold Lib.countByte at hC
  rw [hc0] at hC
  clear hc0
  go_enter Tryd.func58, Tryd.ntmps58
  go_wp2_with (first | (go_at_call 62; refine hC.mono ?_; rintro e w' ⟨rfl, hw⟩; rw [hw]))
  go_ret
  exact ⟨rfl, rfl⟩
theorem replace_any (s : ByteArray) (w : World) (hs : s.size ≤ 1099511627776) :
    Calls Tryd.prog 58 #[.string s, .string ⟨#[0]⟩, .string ⟨#[0, 255]⟩, .int .i64 (-1)] w fun e w' => e = .returned (.string ⟨(escL s.data.toList).toArray⟩) ∧ Below w.heap.size w w' := by
  by_cases hc0 : s.data.toList.count 0 = 0
  · refine (replace_absent s w hc0).mono ?_
    rintro e w' ⟨rfl, rfl⟩
    exact ⟨by rw [no_zero hc0], Below.refl _ _⟩
  · exact replace_some s w hs hc0
theorem replaceAll_any (s : ByteArray) (w : World) (hs : s.size ≤ 1099511627776) :
    Calls Tryd.prog 53 #[.string s, .string ⟨#[0]⟩, .string ⟨#[0, 255]⟩] w fun e w' => e = .returned (.string ⟨(escL s.data.toList).toArray⟩) ∧ Below w.heap.size w w' := by
  go_enter Tryd.func53, Tryd.ntmps53
  go_wp2_with (go_at_call 58; refine (replace_any s _ hs).mono ?_; rintro e w' ⟨rfl, hb⟩)
  go_ret
  exact ⟨rfl, hb⟩

def bytesAll (l0 : List ByteArray) : List (List UInt8) := l0.map fun p => p.data.toList
def key_Put.f (l0 : List ByteArray) : Option ByteArray := if (putL (bytesAll l0)).length ≤ 1099511627776 then some ⟨(putL (bytesAll l0)).toArray⟩ else none
set_option maxHeartbeats 1000000 in
set_option maxRecDepth 100000 in
theorem put_any (A0 : Option Addr) (c0 : Nat) (l0 : List ByteArray) (w : World) (hr0 : Kd.C Kd.string w A0 l0.length l0) (hc0 : l0.length ≤ c0) (hsz : (putL (bytesAll l0)).length ≤ 1099511627776) :
    Calls Tryd.prog 39 #[.slice A0 l0.length c0] w fun e w' => e = .returned (.string ⟨(putL (bytesAll l0)).toArray⟩) ∧ Below w.heap.size w w' := by
  have HR0 := Aside0.mk hr0
  have HC0 := Aside0.mk hc0
  clear hr0 hc0
  have hll : l0.length ≤ 1099511627776 := by
    have : ∀ l : List ByteArray, l.length ≤ (putL (bytesAll l)).length := by
      intro l
      induction l with
      | nil => simp [bytesAll, putL]
      | cons p l ih => rw [show bytesAll (p :: l) = p.data.toList :: bytesAll l from rfl, putL_cons]; simp only [List.length_cons, List.length_append]; omega
    have := this l0; omega
  go_enter Tryd.func39, Tryd.ntmps39
  go_wp2_with fail
  go_loopg [5, 8] l0.length (fun g s5 s8 wx => ∃ (i : Nat), s8 = .int .i64 i ∧ i + g = l0.length ∧
      Aside0 (Lib.IsBuilder 63 5 w.heap.size w.heap.size (Lib.byteCells (putL (bytesAll (l0.take i)))) wx) ∧ Aside0 (Below w.heap.size w wx))
  case atStart => exact ⟨0, rfl, by omega, ⟨Lib.fresh_isBuilder 63 5 w⟩, ⟨(Below.refl _ _).alloc (Nat.le_refl _) _⟩⟩
  case round =>
    obtain ⟨i, rfl, hig, HB, HW⟩ := hrel
    have hBw : w.heap.size ≤ wr.heap.size := HW.out.size
    cases gk with
    | zero =>
      have hiK : ¬ ((i : Int) < (l0.length : Int)) := by omega
      go_wp2_with fail
      have hB2 := HB.out
      rw [List.take_of_length_le (by omega)] at hB2
      refine (Tryd.Builder_String_any w.heap.size w.heap.size _ wr hB2 hBw).mono ?_
      rintro e w5 ⟨rfl, hb5⟩
      have Hb5 := Aside0.mk (HW.out.trans hb5)
      clear hb5 hB2
      go_wp2
      go_ret
      exact ⟨rfl, Hb5.out⟩
    | succ g =>
      have hlt : i < l0.length := by omega
      have hiK : (i : Int) < (l0.length : Int) := by omega
      obtain ⟨ad, rfl, hcell⟩ := Kd.at_string HR0.out (i : Int) (by omega) hiK
      have hcell2 := pw_cell_below HW.out hcell
      have hel : rdOf ByteArray.empty l0 (i : Int) = l0[i] := by simp [rdOf, hlt]
      rw [Int.toNat_natCast] at hcell2
      rw [hel] at hcell2
      clear hcell hel
      obtain ⟨p, hp⟩ : ∃ p, l0[i] = p := ⟨_, rfl⟩
      rw [hp] at hcell2
      have htk : l0.take (i + 1) = l0.take i ++ [p] := by rw [List.take_succ_eq_append_getElem hlt, hp]
      have hsplit : putL (bytesAll l0) = putL (bytesAll (l0.take i)) ++ (escL p.data.toList ++ [0, 0]) ++ putL (bytesAll (l0.drop (i + 1))) := by
        have h1 : l0 = l0.take i ++ (p :: l0.drop (i + 1)) := by conv => lhs; rw [← List.take_append_drop i l0, List.drop_eq_getElem_cons hlt, hp]
        conv => lhs; rw [h1]
        rw [show bytesAll (l0.take i ++ (p :: l0.drop (i + 1))) = bytesAll (l0.take i) ++ (p.data.toList :: bytesAll (l0.drop (i + 1))) by simp [bytesAll], putL_append, putL_cons, List.append_assoc]
        simp only [List.append_assoc]
      have hlen : (putL (bytesAll (l0.take i))).length + ((escL p.data.toList).length + 2) ≤ 1099511627776 := by
        rw [hsplit] at hsz
        simp only [List.length_append, List.length_cons, List.length_nil] at hsz
        omega
      have hps : p.size ≤ 1099511627776 := by
        have := escL_le p.data.toList
        rw [dl] at this
        omega
      have Hn : Aside0 (Lib.byteCells (putL (bytesAll (l0.take i))) ++ Lib.strCells ⟨(escL p.data.toList).toArray⟩ ++ Lib.strCells ⟨#[0, 0]⟩ = Lib.byteCells (putL (bytesAll (l0.take (i + 1))))) := ⟨by
        rw [htk, show bytesAll (l0.take i ++ [p]) = bytesAll (l0.take i) ++ [p.data.toList] by simp [bytesAll], putL_append, putL_cons, putL_nil, List.append_nil, Lib.byteCells_append, Lib.byteCells_append, List.append_assoc]; rfl⟩
      have hes : (⟨(escL p.data.toList).toArray⟩ : ByteArray).size = (escL p.data.toList).length := by simp [ByteArray.size]
      have Hes := Lib.hid hes
      clear hsplit hp htk hes
      go_wp2_with (go_at_call 53; refine (replaceAll_any p _ hps).mono ?_; rintro e w2 ⟨rfl, hb2⟩)
      have H2 : Aside0 (Lib.IsBuilder 63 5 w.heap.size w.heap.size (Lib.byteCells (putL (bytesAll (l0.take i)))) w2) := ⟨builder_below HB.out hb2⟩
      have Hb2 := Aside0.mk (HW.out.trans (hb2.mono hBw))
      have hBw2 : w.heap.size ≤ w2.heap.size := Hb2.out.size
      clear hb2
      refine (writeString w.heap.size w.heap.size _ _ w2 H2.out (by rw [Lib.byteCells_length, Hes.out]; omega) hBw2).mono ?_
      rintro e w3 ⟨rfl, h3, hb3⟩
      have hBw3 : w.heap.size ≤ w3.heap.size := Nat.le_trans hBw2 hb3.size
      have H3 := Aside0.mk h3
      have Hb3 := Aside0.mk hb3
      clear h3 hb3
      go_wp2_with fail
      refine (writeString w.heap.size w.heap.size _ ⟨#[0, 0]⟩ w3 (Or.inr H3.out) (by rw [List.length_append, Lib.byteCells_length, Lib.strCells_length, Hes.out]; show _ + 2 ≤ _; omega) hBw3).mono ?_
      rintro e w4 ⟨rfl, h4, hb4⟩
      rw [Hn.out] at h4
      have H4 := Aside0.mk (Or.inr h4 : Lib.IsBuilder 63 5 w.heap.size w.heap.size _ w4)
      have Hb4 := Aside0.mk ((Hb2.out.trans Hb3.out).trans hb4)
      clear h4 hb4
      go_wp2
      go_roundg g
      case measure => omega
      case rel => exact ⟨i + 1, by first | rfl | (simp; unfold wrap64; omega), by omega, H4, Hb4⟩
theorem key_Put.calls (A0 : Option Addr) (c0 : Nat) (l0 : List ByteArray) (r : ByteArray) (w : World) (hr0 : Kd.C Kd.string w A0 l0.length l0) (hc0 : l0.length ≤ c0) (h : key_Put.f l0 = some r) :
    Calls Tryd.prog 39 #[.slice A0 l0.length c0] w fun e w' => e = .returned (.string r) ∧ Below w.heap.size w w' := by
  unfold key_Put.f at h
  by_cases hs : (putL (bytesAll l0)).length ≤ 1099511627776
  · rw [if_pos hs] at h
    obtain rfl := Option.some.inj h
    exact put_any A0 c0 l0 w hr0 hc0 hs
  · rw [if_neg hs] at h
    cases h
end Go.Proofs.YtggcipjdhhnnkaaDoor.K
