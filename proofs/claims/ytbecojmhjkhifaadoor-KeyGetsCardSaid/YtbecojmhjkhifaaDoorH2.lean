import Derived.Test.YtbecojmhjkhifaaDoorH1
namespace Go.Proofs.YtbecojmhjkhifaaDoor.K
open Go.RowKit Go.Proofs.YtbecojmhjkhifaaDoorW.PrintWords Go.Proofs.YtbecojmhjkhifaaDoorW.PrintLast Go.Proofs.YtbecojmhjkhifaaDoorW.PrintMore

/-- What Get comes to: the bytes that are left, the part that is open, the parts that stand. -/
def getI : List Int → List Int → List ByteArray → Option (List ByteArray)
  | [], part, acc => if part.length > 0 then none else some acc
  | c :: r, part, acc =>
    if c = 0 then
      match r with
      | [] => none
      | d :: r' => if d = 255 then getI r' (part ++ [0]) acc else if d = 0 then getI r' [] (acc ++ [strOfNums part]) else none
    else getI r (part ++ [c]) acc
def getR (r : Option (List ByteArray)) : List ByteArray × Int := match r with | some l => (l, 0) | none => ([], 10)
def key_Get.f (a0 : ByteArray) : Option (List ByteArray × Int) := if a0.size ≤ 1099511627776 then some (getR (getI (bytesOf a0) [] [])) else none

def restI (s : ByteArray) (j : Nat) : List Int := (bytesOf s).drop j
theorem rest_cons (s : ByteArray) (j : Nat) (h : j < s.size) : restI s j = bt s j :: restI s (j + 1) := by
  unfold restI
  have hl := bytesOf_length s
  rw [List.drop_eq_getElem_cons (by omega)]
  congr 1
  have := rd_bytesOf s j
  rw [← this]
  simp [rd, hl, h]
theorem rest_nil (s : ByteArray) (j : Nat) (h : s.size ≤ j) : restI s j = [] := by
  unfold restI
  rw [List.drop_eq_nil_iff, bytesOf_length]; exact h

/-- What holds at the head of Get's loop. -/
structure GetRel (s : ByteArray) (res : Option (List ByteArray)) (w : World) (bs bi B : Nat) (kq : Nat) (j : Nat) (part : List Int) (acc : List ByteArray) (v4 v5 : Value) (wr : World) : Prop where
  hj : j ≤ s.size
  hk : s.size - j < kq
  hs : cellS wr bs s
  hi : cellI wr bi (nx s j)
  hl : Kd.R Kd.string 9 wr B (fun _ => True) v4 acc
  hp : Kd.R (Kd.int .u8) 5 wr B (fun _ => True) v5 part
  hb : Below w.heap.size w wr
  hB : B ≤ wr.heap.size
  hla : acc.length ≤ j
  hlp : part.length ≤ j
  hres : getI (restI s j) part acc = res

theorem alloc_old (w : World) (o : Obj) (k : Nat) (h : k < w.heap.size) : (w.alloc o).heap[k]? = w.heap[k]? := Below.heap_alloc w o k h
theorem keep_rows {w w1 : World} {v4 v5 : Value} {acc : List ByteArray} {part : List Int} {B : Nat} (hl : Kd.R Kd.string 9 w B (fun _ => True) v4 acc) (hp : Kd.R (Kd.int .u8) 5 w B (fun _ => True) v5 part) (hg : w.grownBy w1 v5.ownBlock) : Kd.R Kd.string 9 w1 B (fun _ => True) v4 acc := by
  refine Kd.R_mono (Kd.R_grown (Kd.R_bound hl) hg (fun k hk he => ?_)) (fun _ _ => trivial)
  obtain ⟨_, _, _, q, hq, cells, hc⟩ := hk
  obtain ⟨inner, ho⟩ := Kd.R_own hp
  obtain ⟨cells', hc'⟩ := own_typed ho k he.symm
  rw [hc] at hc'
  injection hc' with hc'
  injection hc' with _ hc'
  have h9 : q = 9 := by simpa [Kd.string, Kd.scalar] using hq
  rw [h9] at hc'; exact absurd hc' (by decide)
theorem keep_rows' {w w1 : World} {v4 v5 : Value} {acc : List ByteArray} {part : List Int} {B : Nat} (hl : Kd.R Kd.string 9 w B (fun _ => True) v4 acc) (hp : Kd.R (Kd.int .u8) 5 w B (fun _ => True) v5 part) (hg : w.grownBy w1 v4.ownBlock) : Kd.R (Kd.int .u8) 5 w1 B (fun _ => True) v5 part := by
  refine Kd.R_mono (Kd.R_grown (Kd.R_bound hp) hg (fun k hk he => ?_)) (fun _ _ => trivial)
  obtain ⟨_, _, _, q, hq, cells, hc⟩ := hk
  obtain ⟨inner, ho⟩ := Kd.R_own hl
  obtain ⟨cells', hc'⟩ := own_typed ho k he.symm
  rw [hc] at hc'
  injection hc' with hc'
  injection hc' with _ hc'
  have h5 : q = 5 := by simpa [Kd.int, Kd.scalar] using hq
  rw [h5] at hc'; exact absurd hc' (by decide)
/-- A round's end: what was done, and the next byte is read. -/
theorem GetRel.next {s : ByteArray} {res : Option (List ByteArray)} {w : World} {bs bi B kq j2 : Nat} {part : List Int} {acc : List ByteArray} {v4 v5 : Value} {w1 w2 : World}
    (hbi : bi < B) (hne : bs ≠ bi) (hw : w.heap.size ≤ bi) (hj : j2 ≤ s.size) (hk : s.size - j2 < kq) (hs : cellS w1 bs s)
    (hl : Kd.R Kd.string 9 w1 B (fun _ => True) v4 acc) (hp : Kd.R (Kd.int .u8) 5 w1 B (fun _ => True) v5 part) (hb : Below w.heap.size w w1) (hB : B ≤ w1.heap.size)
    (hla : acc.length ≤ j2) (hlp : part.length ≤ j2) (hres : getI (restI s j2) part acc = res)
    (hi2 : cellI w2 bi (nx s j2)) (ht : Turn w1 w2 bi) : GetRel s res w bs bi B kq j2 part acc v4 v5 w2 := by
  refine { hj := hj, hk := hk, hs := ?_, hi := hi2, hl := ?_, hp := ?_, hb := hb.trans (ht.below hw), hB := by rw [ht.size]; exact hB, hla := hla, hlp := hlp, hres := hres }
  · unfold cellS; rw [ht.block bs hne]; exact hs
  · refine Kd.R_mono (Kd.R_keep (Kd.R_bound hl) ht.keep (fun k hk => ?_)) (fun _ _ => trivial)
    have := hk.2.1; omega
  · refine Kd.R_mono (Kd.R_keep (Kd.R_bound hp) ht.keep (fun k hk => ?_)) (fun _ _ => trivial)
    have := hk.2.1; omega
theorem cellS_below {w w1 : World} {g B : Nat} {s : ByteArray} (h : cellS w g s) (hb : Below B w w1) (hg : g < B) : cellS w1 g s := by unfold cellS; rw [hb.block g hg]; exact h
theorem cellI_below {w w1 : World} {g B : Nat} {i : Nat} (h : cellI w g i) (hb : Below B w w1) (hg : g < B) : cellI w1 g i := by unfold cellI; rw [hb.block g hg]; exact h
theorem cellS_turn {w w1 : World} {g b : Nat} {s : ByteArray} (h : cellS w g s) (hb : Turn w w1 b) (hg : g ≠ b) : cellS w1 g s := by unfold cellS; rw [hb.block g hg]; exact h
theorem R_turn {α : Type} {d : Kd α} {e : Nat} {w w1 : World} {B g : Nat} {v : Value} {xs : List α} (h : d.R e w B (fun _ => True) v xs) (ht : Turn w w1 g) (hg : g < B) : d.R e w1 B (fun _ => True) v xs := by
  refine Kd.R_mono (Kd.R_keep (Kd.R_bound h) ht.keep (fun k hk => ?_)) (fun _ _ => trivial)
  have := hk.2.1; omega
theorem get_byte {s : ByteArray} {j : Nat} {part : List Int} {acc : List ByteArray} {res : Option (List ByteArray)} (h : getI (restI s j) part acc = res) (hlt : j < s.size) (hc : ¬ bt s j = 0) : getI (restI s (j + 1)) (part ++ [chB s j]) acc = res := by
  rw [rest_cons s j hlt] at h
  rw [show chB s j = bt s j from if_pos hlt]
  unfold getI at h
  rw [if_neg hc] at h
  exact h
theorem get_end {s : ByteArray} {j : Nat} {part : List Int} {acc : List ByteArray} {res : Option (List ByteArray)} (h : getI (restI s j) part acc = res) (hlt : j < s.size) (hc : bt s j = 0) (h1 : ¬ j + 1 < s.size) : res = none := by
  rw [rest_cons s j hlt, rest_nil s (j + 1) (by omega)] at h
  simpa [getI, hc] using h.symm
theorem get_zero {s : ByteArray} {j : Nat} {part : List Int} {acc : List ByteArray} {res : Option (List ByteArray)} (h : getI (restI s j) part acc = res) (hlt : j < s.size) (hc : bt s j = 0) (h1 : j + 1 < s.size) (hd : bt s (j + 1) = 255) : getI (restI s (j + 2)) (part ++ [0]) acc = res := by
  rw [rest_cons s j hlt, rest_cons s (j + 1) h1] at h
  simpa [getI, hc, hd] using h
theorem get_part {s : ByteArray} {j : Nat} {part : List Int} {acc : List ByteArray} {res : Option (List ByteArray)} (h : getI (restI s j) part acc = res) (hlt : j < s.size) (hc : bt s j = 0) (h1 : j + 1 < s.size) (hd : bt s (j + 1) = 0) : getI (restI s (j + 2)) [] (acc ++ [strOfNums part]) = res := by
  rw [rest_cons s j hlt, rest_cons s (j + 1) h1] at h
  simpa [getI, hc, hd] using h
theorem get_bad {s : ByteArray} {j : Nat} {part : List Int} {acc : List ByteArray} {res : Option (List ByteArray)} (h : getI (restI s j) part acc = res) (hlt : j < s.size) (hc : bt s j = 0) (h1 : j + 1 < s.size) (hd : ¬ bt s (j + 1) = 255) (hd2 : ¬ bt s (j + 1) = 0) : res = none := by
  rw [rest_cons s j hlt, rest_cons s (j + 1) h1] at h
  simpa [getI, hc, hd, hd2] using h.symm
theorem get_open {s : ByteArray} {j : Nat} {part : List Int} {acc : List ByteArray} {res : Option (List ByteArray)} (h : getI (restI s j) part acc = res) (hlt : ¬ j < s.size) (hp : 0 < part.length) : res = none := by
  rw [rest_nil s j (by omega)] at h
  unfold getI at h
  rw [if_pos hp] at h
  exact h.symm
theorem get_done {s : ByteArray} {j : Nat} {part : List Int} {acc : List ByteArray} {res : Option (List ByteArray)} (h : getI (restI s j) part acc = res) (hlt : ¬ j < s.size) (hp : ¬ 0 < part.length) : res = some acc := by
  rw [rest_nil s j (by omega)] at h
  unfold getI at h
  rw [if_neg hp] at h
  exact h.symm

theorem hinfo5 : (Tryd.prog.info? 5).map (fun i => (i.zero, i.size, i.bytes)) = some (some (.int .u8 0), 1, 1) := by kernel_rfl
theorem hinfo9 : (Tryd.prog.info? 9).map (fun i => (i.zero, i.size, i.bytes)) = some (some (.string ⟨#[]⟩), 1, 16) := by kernel_rfl

set_option maxHeartbeats 1000000 in
set_option maxRecDepth 100000 in
theorem get_any (s : ByteArray) (w : World) (hsz : s.size ≤ 1099511627776) :
    Calls Tryd.prog 16 #[.string s] w fun e w' => ∃ v0_ : Value, e = .returned (.tuple #[v0_, .int .i64 (getR (getI (bytesOf s) [] [])).2]) ∧ Kd.R Kd.string 9 w' w.heap.size (fun _ => True) v0_ (getR (getI (bytesOf s) [] [])).1 ∧ Below w.heap.size w w' := by
  obtain ⟨res, hres⟩ : ∃ res, getI (bytesOf s) [] [] = res := ⟨_, rfl⟩
  rw [hres]
  have HRES := Aside0.mk hres
  clear hres
  have hsz' : s.size ≤ 140737488355328 := by omega
  go_enter Tryd.func16, Tryd.ntmps16
  go_wp2_with fail
  have h0i : cellI ((w.alloc (.cells #[.string s] 9 (0, 0))).alloc (.cells #[.int .i64 ((0 : Nat) : Int)] 3 (0, 0))) (w.heap.size + 1) 0 := by
    have := alloc_new (w.alloc (.cells #[.string s] 9 (0, 0))) (.cells #[.int .i64 ((0 : Nat) : Int)] 3 (0, 0)); simpa [cellI] using this
  have h0s : cellS ((w.alloc (.cells #[.string s] 9 (0, 0))).alloc (.cells #[.int .i64 ((0 : Nat) : Int)] 3 (0, 0))) w.heap.size s := by
    unfold cellS; rw [alloc_old _ _ _ (by simp)]; exact alloc_new _ _
  refine (next_any s 0 (w.heap.size + 1) w.heap.size _ h0i h0s (by omega) (by omega) hsz').mono ?_
  rintro e w1 ⟨rfl, h1⟩
  have hB1 : Below w.heap.size w w1 := ((((Below.refl _ _).alloc (Nat.le_refl _) _).alloc (by simp) _).trans (h1.out.2.below (by omega)))
  have hs1 : w1.heap.size = w.heap.size + 2 := by rw [h1.out.2.size]; simp
  have hR1 : Aside0 (GetRel s res w w.heap.size (w.heap.size + 1) (w.heap.size + 2) (s.size + 1) 0 [] [] (.slice none 0 0) (.slice none 0 0) w1) := ⟨{
    hj := by omega, hk := by omega
    hs := by
      have h2 := h1.out.2.block w.heap.size (by omega)
      unfold cellS; rw [h2]; exact h0s
    hi := h1.out.1
    hl := Kd.R_nil _ _ _ _ _
    hp := Kd.R_nil _ _ _ _ _
    hb := hB1
    hB := by omega
    hla := by simp
    hlp := by simp
    hres := by simpa [restI] using HRES.out }⟩
  clear h1 hB1 hs1 h0i h0s HRES
  go_wp2_with fail
  go_loopg [4, 5, 8, 9] (s.size + 1) (fun kq v4 v5 v8 v9 wr => ∃ (j : Nat) (part : List Int) (acc : List ByteArray), v8 = .int .u8 (chB s j) ∧ v9 = .bool (okB s j) ∧ Aside0 (GetRel s res w w.heap.size (w.heap.size + 1) (w.heap.size + 2) kq j part acc v4 v5 wr))
  case atStart => exact ⟨0, [], [], rfl, rfl, hR1⟩
  case round =>
    clear hR1
    obtain ⟨j, part, acc, rfl, hv9, HR⟩ := hrel
    cases gk with
    | zero => exact absurd HR.out.hk (by omega)
    | succ k1 =>
    by_cases hlt : j < s.size
    · have hok : okB s j = true := decide_eq_true hlt
      rw [hok] at hv9
      subst hv9
      clear hok
      have hch : chB s j = bt s j := if_pos hlt
      have hnx : nx s j = j + 1 := if_pos hlt
      have HI := HR.out.hi
      rw [hnx] at HI
      have HI := Aside0.mk HI
      clear hnx
      by_cases hc : bt s j = 0
      · have hc1 : (chB s j != 0) = false := by rw [hch]; simpa using hc
        have HC := Lib.hid hc
        clear hch hc
        go_wp2_with fail
        refine (next_any s (j + 1) (w.heap.size + 1) w.heap.size _ HI.out HR.out.hs (by omega) (by omega) hsz').mono ?_
        by_cases h1 : j + 1 < s.size
        · have hok2 : okB s (j + 1) = true := decide_eq_true h1
          have hch2 : chB s (j + 1) = bt s (j + 1) := if_pos h1
          have hnx2 : nx s (j + 1) = j + 2 := if_pos h1
          rw [hok2, hnx2]
          rintro e w2 ⟨rfl, h2⟩
          clear hok2 hnx2
          by_cases hd : bt s (j + 1) = 255
          · have hd1 : (chB s (j + 1) == 255) = true := by rw [hch2]; simpa using hd
            have HD := Lib.hid hd
            clear hch2 hd
            go_wp2_with (first
              | ((with_reducible refine gate_builtin (b := .append) (xs := #[.tmp 41, .tmp 42]) rfl ?_); at_builtin; refine Kd.R_append (Kd.int .u8) (w0 := w2) (w.heap.size + 2) rfl (.tmp 41) (.tmp 42) 44 5 (.int .u8 0) 1 rfl Tryd.underlying44 hinfo5 rfl (by decide) (by decide) u5 part 0 [.int .u8 0] (fun _ => True) (fun _ => False) rfl rfl rfl (fun _ hk => hk.elim) (fun _ _ => trivial) (R_turn HR.out.hp h2.out.2 (by omega)) (Below.refl _ _) ?aS ?aL ?_; (case aS => have := HR.out.hB; rw [h2.out.2.size]; exact this); (case aL => have := HR.out.hlp; omega); intro v1 w3 ho hb hg hat; have H1 := Aside0.mk (And.intro ho (And.intro hb hg)); clear ho hb hg hat))
            have HB3 : w.heap.size + 2 ≤ w3.heap.size := by have := H1.out.2.1.size; have := h2.out.2.size; have := HR.out.hB; omega
            refine (next_any s (j + 2) (w.heap.size + 1) w.heap.size _ (cellI_below h2.out.1 H1.out.2.1 (by omega)) (cellS_below (cellS_turn HR.out.hs h2.out.2 (by omega)) H1.out.2.1 (by omega)) (by omega) (by omega) hsz').mono ?_
            rintro e w4 ⟨rfl, h4⟩
            have HR2 : Aside0 (GetRel s res w w.heap.size (w.heap.size + 1) (w.heap.size + 2) k1 (j + 2) (part ++ [0]) acc u4 v1 w4) :=
              ⟨GetRel.next (by omega) (by omega) (by omega) (by omega) (by have := HR.out.hk; omega) (cellS_below (cellS_turn HR.out.hs h2.out.2 (by omega)) H1.out.2.1 (by omega))
                (keep_rows (R_turn HR.out.hl h2.out.2 (by omega)) (R_turn HR.out.hp h2.out.2 (by omega)) H1.out.2.2) H1.out.1 ((HR.out.hb.trans (h2.out.2.below (by omega))).trans (H1.out.2.1.mono (by omega))) HB3
                (by have := HR.out.hla; omega) (by rw [List.length_append, List.length_singleton]; have := HR.out.hlp; omega) (get_zero HR.out.hres hlt HC.out h1 HD.out) h4.out.1 h4.out.2⟩
            clear HR H1 h2 h4 HB3 HI
            go_wp2
            go_roundg k1
            case measure => omega
            case rel => exact ⟨j + 2, _, acc, rfl, rfl, HR2⟩
          · have hd1 : (chB s (j + 1) == 255) = false := by rw [hch2]; simpa using hd
            have HD := Lib.hid hd
            by_cases hd2 : bt s (j + 1) = 0
            · have hd3 : (chB s (j + 1) == 0) = true := by rw [hch2]; simpa using hd2
              have HD2 := Lib.hid hd2
              clear hch2 hd hd2
              have HP2 := Aside0.mk (R_turn HR.out.hp h2.out.2 (by omega : w.heap.size + 1 < w.heap.size + 2))
              have hcv := own_string (P := Tryd.prog) Tryd.underlying44 Tryd.underlying5 Tryd.underlying9 (Kd.own_of_R HP2.out)
              go_wp2_with (first
                | ((with_reducible refine gate_builtin (b := .append) (xs := #[.tmp 50, .tmp 53]) rfl ?_); at_builtin; refine Kd.R_append Kd.string (w0 := w2) (w.heap.size + 2) rfl (.tmp 50) (.tmp 53) 22 9 (.string ⟨#[]⟩) 16 rfl Tryd.underlying22 hinfo9 rfl (by decide) (by decide) u4 acc (strOfNums part) [.string (strOfNums part)] (fun _ => True) (fun _ => False) rfl rfl rfl (fun _ hk => hk.elim) (fun _ _ => trivial) (R_turn HR.out.hl h2.out.2 (by omega)) (Below.refl _ _) ?aS ?aL ?_; (case aS => have := HR.out.hB; rw [h2.out.2.size]; exact this); (case aL => have := HR.out.hla; omega); intro v1 w3 ho hb hg hat; have H1 := Aside0.mk (And.intro ho (And.intro hb hg)); clear ho hb hg hat hcv))
              have HB3 : w.heap.size + 2 ≤ w3.heap.size := by have := H1.out.2.1.size; have := h2.out.2.size; have := HR.out.hB; omega
              refine (next_any s (j + 2) (w.heap.size + 1) w.heap.size _ (cellI_below h2.out.1 H1.out.2.1 (by omega)) (cellS_below (cellS_turn HR.out.hs h2.out.2 (by omega)) H1.out.2.1 (by omega)) (by omega) (by omega) hsz').mono ?_
              rintro e w4 ⟨rfl, h4⟩
              have HR2 : Aside0 (GetRel s res w w.heap.size (w.heap.size + 1) (w.heap.size + 2) k1 (j + 2) [] (acc ++ [strOfNums part]) v1 (.slice none 0 0) w4) :=
                ⟨GetRel.next (by omega) (by omega) (by omega) (by omega) (by have := HR.out.hk; omega) (cellS_below (cellS_turn HR.out.hs h2.out.2 (by omega)) H1.out.2.1 (by omega))
                  H1.out.1 (Kd.R_nil _ _ _ _ _) ((HR.out.hb.trans (h2.out.2.below (by omega))).trans (H1.out.2.1.mono (by omega))) HB3
                  (by rw [List.length_append, List.length_singleton]; have := HR.out.hla; omega) (by simp) (get_part HR.out.hres hlt HC.out h1 HD2.out) h4.out.1 h4.out.2⟩
              clear HR H1 h2 h4 HB3 HI HP2
              go_wp2
              go_roundg k1
              case measure => omega
              case rel => exact ⟨j + 2, _, _, rfl, rfl, HR2⟩
            · have hd3 : (chB s (j + 1) == 0) = false := by rw [hch2]; simpa using hd2
              have HD2 := Lib.hid hd2
              clear hch2 hd hd2
              have hn := get_bad HR.out.hres hlt HC.out h1 HD.out HD2.out
              subst hn
              have HB2 := Aside0.mk (HR.out.hb.trans (h2.out.2.below (by omega)))
              clear HR h2 HI
              go_wp2
              go_ret2
              exact ⟨_, rfl, Kd.R_nil _ _ _ _ _, HB2.out⟩
        · have hok2 : okB s (j + 1) = false := decide_eq_false h1
          have hch2 : chB s (j + 1) = 0 := if_neg h1
          rw [hok2, hch2]
          rintro e w2 ⟨rfl, h2⟩
          clear hok2 hch2
          have hn := get_end HR.out.hres hlt HC.out h1
          subst hn
          have HB2 := Aside0.mk (HR.out.hb.trans (h2.out.2.below (by omega)))
          clear HR h2 HI
          go_wp2
          go_ret2
          exact ⟨_, rfl, Kd.R_nil _ _ _ _ _, HB2.out⟩
      · have hc1 : (chB s j != 0) = true := by rw [hch]; simpa using hc
        have HC := Lib.hid hc
        clear hch hc
        go_wp2_with (first
          | ((with_reducible refine gate_builtin (b := .append) (xs := #[.tmp 26, .tmp 28]) rfl ?_); at_builtin; refine Kd.R_append (Kd.int .u8) (w0 := wr) (w.heap.size + 2) rfl (.tmp 26) (.tmp 28) 44 5 (.int .u8 0) 1 rfl Tryd.underlying44 hinfo5 rfl (by decide) (by decide) u5 part (chB s j) [.int .u8 (chB s j)] (fun _ => True) (fun _ => False) rfl rfl rfl (fun _ hk => hk.elim) (fun _ _ => trivial) HR.out.hp (Below.refl _ _) ?aS ?aL ?_; (case aS => exact HR.out.hB); (case aL => have := HR.out.hlp; omega); intro v1 w1 ho hb hg hat; have H1 := Aside0.mk (And.intro ho (And.intro hb hg)); clear ho hb hg hat))
        have HB1 : w.heap.size + 2 ≤ w1.heap.size := by have := H1.out.2.1.size; have := HR.out.hB; omega
        refine (next_any s (j + 1) (w.heap.size + 1) w.heap.size _ (cellI_below HI.out H1.out.2.1 (by omega)) (cellS_below HR.out.hs H1.out.2.1 (by omega)) (by omega) (by omega) hsz').mono ?_
        rintro e w2 ⟨rfl, h2⟩
        have HR2 : Aside0 (GetRel s res w w.heap.size (w.heap.size + 1) (w.heap.size + 2) k1 (j + 1) (part ++ [chB s j]) acc u4 v1 w2) :=
          ⟨GetRel.next (by omega) (by omega) (by omega) (by omega) (by have := HR.out.hk; omega) (cellS_below HR.out.hs H1.out.2.1 (by omega))
            (keep_rows HR.out.hl HR.out.hp H1.out.2.2) H1.out.1 (HR.out.hb.trans (H1.out.2.1.mono (by omega))) HB1
            (by have := HR.out.hla; omega) (by rw [List.length_append, List.length_singleton]; have := HR.out.hlp; omega) (get_byte HR.out.hres hlt HC.out) h2.out.1 h2.out.2⟩
        clear HR H1 h2 HB1 HI
        go_wp2
        go_roundg k1
        case measure => omega
        case rel => exact ⟨j + 1, _, acc, rfl, rfl, HR2⟩
    · have hok : okB s j = false := decide_eq_false hlt
      rw [hok] at hv9
      subst hv9
      clear hok
      obtain ⟨A, c, rfl, hcc, hpC⟩ := Kd.R_reads HR.out.hp
      clear hpC
      by_cases hpl : 0 < part.length
      · have hd : decide (0 < part.length) = true := decide_eq_true hpl
        have hn := get_open HR.out.hres hlt hpl
        subst hn
        have HB2 := Aside0.mk HR.out.hb
        clear HR
        go_wp2
        go_ret2
        exact ⟨_, rfl, Kd.R_nil _ _ _ _ _, HB2.out⟩
      · have hd : decide (0 < part.length) = false := decide_eq_false hpl
        have hn := get_done HR.out.hres hlt hpl
        subst hn
        go_wp2
        go_ret2
        exact ⟨_, rfl, Kd.R_lower HR.out.hl (by omega), HR.out.hb⟩
theorem key_Get.calls (a0 : ByteArray) (r1 : List ByteArray) (r2 : Int) (w : World) (h : key_Get.f a0 = some (r1, r2)) :
    Calls Tryd.prog 16 #[.string a0] w fun e w' => ∃ v0_ : Value, e = .returned (.tuple #[v0_, .int .i64 r2]) ∧ Kd.R Kd.string 9 w' w.heap.size (fun _ => True) v0_ r1 ∧ Below w.heap.size w w' := by
  unfold key_Get.f at h
  by_cases hs : a0.size ≤ 1099511627776
  · rw [if_pos hs] at h
    have h2 := Option.some.inj h
    have e1 : r1 = (getR (getI (bytesOf a0) [] [])).1 := by rw [h2]
    have e2 : r2 = (getR (getI (bytesOf a0) [] [])).2 := by rw [h2]
    rw [e1, e2]
    exact get_any a0 w hs
  · rw [if_neg hs] at h
    cases h
end Go.Proofs.YtbecojmhjkhifaaDoor.K
