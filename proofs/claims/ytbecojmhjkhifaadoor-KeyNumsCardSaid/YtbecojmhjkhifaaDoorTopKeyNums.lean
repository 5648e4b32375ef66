/- KeyNums: the pure statement of the law, and its walk. Conditions: none beyond the row's own. -/
import Derived.Test.YtbecojmhjkhifaaDoorG4
import Derived.Test.YtbecojmhjkhifaaDoorP17
import Derived.Laws.BitsAllLaws
namespace Go.Proofs.YtbecojmhjkhifaaDoor.K
set_option linter.unusedVariables false
set_option linter.unusedSimpArgs false
open Go.RowKit Go.Proofs.YtbecojmhjkhifaaDoorW.PrintWords Go.Proofs.YtbecojmhjkhifaaDoorW.PrintLast Go.Proofs.YtbecojmhjkhifaaDoorW.PrintMore
open Go.Proofs.YtbecojmhjkhifaaDoor.PL

/-- The number of bytes, the highest one first; and a number's n bytes. -/
def ofL (l : List UInt8) : Nat := l.foldl (fun n b => n * 256 + b.toNat) 0
def beN : Nat → Nat → List UInt8
  | 0, _ => []
  | n + 1, m => beN n (m / 256) ++ [UInt8.ofNat (m % 256)]
theorem ofL_snoc (l : List UInt8) (b : UInt8) : ofL (l ++ [b]) = ofL l * 256 + b.toNat := by simp [ofL]
theorem beN_length : ∀ n m, (beN n m).length = n
  | 0, _ => rfl
  | n + 1, m => by rw [beN, List.length_append, beN_length n]; rfl
theorem ofL_beN : ∀ n m, ofL (beN n m) = m % 256 ^ n
  | 0, m => by rw [Nat.pow_zero, Nat.mod_one]; rfl
  | n + 1, m => by
    rw [beN, ofL_snoc, ofL_beN n, UInt8.toNat_ofNat']
    have h1 : m % 256 % 2 ^ 8 = m % 256 := by omega
    rw [h1, Nat.pow_succ, Nat.mul_comm (256 ^ n) 256, Nat.mod_mul]
    omega
theorem ofL_lt (l : List UInt8) : ofL l < 256 ^ l.length := by
  rw [← List.reverse_reverse l]
  generalize l.reverse = r
  induction r with
  | nil => simp [ofL]
  | cons b r ih =>
    rw [List.reverse_cons, ofL_snoc, List.length_append, List.length_singleton, Nat.pow_succ]
    have := b.toNat_lt
    omega
theorem ofL_from (l : List UInt8) : ∀ a : Nat, l.foldl (fun n b => n * 256 + b.toNat) a = a * 256 ^ l.length + ofL l := by
  induction l with
  | nil => intro a; simp [ofL]
  | cons b l ih =>
    intro a
    rw [List.foldl_cons, ih, List.length_cons, Nat.pow_succ]
    have : ofL (b :: l) = b.toNat * 256 ^ l.length + ofL l := by
      show List.foldl _ (0 * 256 + b.toNat) l = _
      rw [ih]; simp
    rw [this, Nat.add_mul, Nat.mul_assoc, Nat.mul_comm (256 ^ l.length) 256, Nat.add_assoc]
theorem ofL_cons (b : UInt8) (l : List UInt8) : ofL (b :: l) = b.toNat * 256 ^ l.length + ofL l := by
  show List.foldl _ (0 * 256 + b.toNat) l = _
  rw [ofL_from]; simp
/-- Bytes, as many, stand as their numbers do. -/
theorem ofL_order : ∀ (a b : List UInt8), a.length = b.length → lt a b = decide (ofL a < ofL b)
  | [], [], _ => rfl
  | [], _ :: _, h => by cases h
  | _ :: _, [], h => by cases h
  | c :: a, d :: b, h => by
    have hl : a.length = b.length := by simpa using h
    have h1 := ofL_lt a
    have h2 := ofL_lt b
    rw [ofL_cons, ofL_cons, hl]
    rw [hl] at h1
    rcases byte_tri c d with hc | rfl | hc
    · rw [lt_less hc]; symm; apply decide_eq_true
      rw [UInt8.lt_iff_toNat_lt] at hc
      have := Nat.mul_le_mul_right (256 ^ b.length) (Nat.succ_le_of_lt hc)
      rw [Nat.succ_mul] at this
      omega
    · rw [lt_same, ofL_order a b hl, decide_eq_decide]; omega
    · rw [lt_more hc]; symm; apply decide_eq_false
      rw [UInt8.lt_iff_toNat_lt] at hc
      have := Nat.mul_le_mul_right (256 ^ b.length) (Nat.succ_le_of_lt hc)
      rw [Nat.succ_mul] at this
      omega
theorem ofL_inj {a b : List UInt8} (h : a.length = b.length) (e : ofL a = ofL b) : a = b :=
  lt_total (by rw [ofL_order a b h, e]; simp) (by rw [ofL_order b a h.symm, e]; simp)

theorem num_unfold (n : Int) : key_Num.f 9 n = some (strOfNums [shr .u64 n 56 % 256, shr .u64 n 48 % 256, shr .u64 n 40 % 256, shr .u64 n 32 % 256, shr .u64 n 24 % 256, shr .u64 n 16 % 256, shr .u64 n 8 % 256, shr .u64 n 0 % 256]) := by
  kernel_rfl
theorem shr_nat (m s : Nat) (hs : s ≤ 64) : shr .u64 (m : Int) (s : Int) = ((m / 2 ^ s : Nat) : Int) := by
  unfold shr
  rw [Int.toNat_natCast, show IntKind.u64.bits = 64 from rfl, Nat.min_eq_left hs]
  simp
theorem t256 (x : Nat) : (((x : Nat) : Int) % 256).toNat = x % 256 := by omega
theorem be_eight (m : Nat) : beN 8 m = [UInt8.ofNat (m / 2 ^ 56 % 256), UInt8.ofNat (m / 2 ^ 48 % 256), UInt8.ofNat (m / 2 ^ 40 % 256), UInt8.ofNat (m / 2 ^ 32 % 256), UInt8.ofNat (m / 2 ^ 24 % 256), UInt8.ofNat (m / 2 ^ 16 % 256), UInt8.ofNat (m / 2 ^ 8 % 256), UInt8.ofNat (m / 2 ^ 0 % 256)] := by
  simp [beN, Nat.div_div_eq_div_mul]
theorem num_ev (m : Nat) : Ev (fun k => key_Num.f k (m : Int)) (mk (beN 8 m)) := by
  refine Ev.of (fun k => key_Num.mono _ k) (k := 9) ?_
  rw [num_unfold]
  have h56 : shr .u64 (m : Int) 56 = ((m / 2 ^ 56 : Nat) : Int) := shr_nat m 56 (by omega)
  have h48 : shr .u64 (m : Int) 48 = ((m / 2 ^ 48 : Nat) : Int) := shr_nat m 48 (by omega)
  have h40 : shr .u64 (m : Int) 40 = ((m / 2 ^ 40 : Nat) : Int) := shr_nat m 40 (by omega)
  have h32 : shr .u64 (m : Int) 32 = ((m / 2 ^ 32 : Nat) : Int) := shr_nat m 32 (by omega)
  have h24 : shr .u64 (m : Int) 24 = ((m / 2 ^ 24 : Nat) : Int) := shr_nat m 24 (by omega)
  have h16 : shr .u64 (m : Int) 16 = ((m / 2 ^ 16 : Nat) : Int) := shr_nat m 16 (by omega)
  have h8 : shr .u64 (m : Int) 8 = ((m / 2 ^ 8 : Nat) : Int) := shr_nat m 8 (by omega)
  have h0 : shr .u64 (m : Int) 0 = ((m / 2 ^ 0 : Nat) : Int) := shr_nat m 0 (by omega)
  rw [h56, h48, h40, h32, h24, h16, h8, h0, be_eight]
  unfold strOfNums mk
  simp only [List.map_cons, List.map_nil, t256]

/-! Of -/
theorem or_byte (x b : Nat) (hb : b < 256) (hx : x < 72057594037927936) : Go.bits .or .u64 (IntKind.u64.wrap ((x : Int) * 256)) (IntKind.u64.wrap (b : Int)) = ((x * 256 + b : Nat) : Int) := by
  have h1 : IntKind.u64.wrap ((x : Int) * 256) = ((x * 256 : Nat) : Int) := by unfold IntKind.wrap; simp [IntKind.bits, IntKind.signed]; omega
  have h2 : IntKind.u64.wrap (b : Int) = ((b : Nat) : Int) := by unfold IntKind.wrap; simp [IntKind.bits, IntKind.signed]; omega
  rw [h1, h2, u64_or_nat _ _ (by omega) (by omega)]
  have : x * 256 ||| b = x * 256 + b := by
    have := Nat.two_pow_add_eq_or_of_lt (i := 8) (b := b) (by omega) x
    rw [Nat.mul_comm x 256]; exact this.symm
  rw [this]
theorem of_l (s : ByteArray) (hs : s.size = 8) (d : Nat) : ∀ i : Nat, i ≤ 8 → 8 - i = d → Ev (fun k => key_Of.l0 k s ((ofL (s.data.toList.take i) : Nat) : Int) (i : Int)) (((ofL s.data.toList : Nat) : Int), 0) := by
  have hl : s.data.toList.length = 8 := by rw [data_length]; exact hs
  induction d with
  | zero =>
    intro i hi hd
    obtain rfl : i = 8 := by omega
    rw [List.take_of_length_le (by omega)]
    exact Ev.step (f := fun _ => some (((ofL s.data.toList : Nat) : Int), 0)) (fun k => by simp only [key_Of.l0]; rw [if_neg (by omega)]) (Ev.now _)
  | succ d ih =>
    intro i hi hd
    have hlt : i < s.size := by omega
    have htk : s.data.toList.take (i + 1) = s.data.toList.take i ++ [s[i]] := by rw [List.take_succ_eq_append_getElem (by omega)]; rfl
    have hb : ofL (s.data.toList.take i) < 72057594037927936 := by
      have h1 := ofL_lt (s.data.toList.take i)
      rw [List.length_take, hl, Nat.min_eq_left (by omega)] at h1
      have h2 : 256 ^ i ≤ 256 ^ 7 := Nat.pow_le_pow_right (by omega) (by omega)
      have h3 : 256 ^ 7 = 72057594037927936 := rfl
      omega
    refine Ev.step (f := fun k => key_Of.l0 k s ((ofL (s.data.toList.take (i + 1)) : Nat) : Int) ((i + 1 : Nat) : Int)) (fun k => ?_) (ih (i + 1) (by omega) (by omega))
    simp only [key_Of.l0]
    rw [if_pos (by omega), if_pos (by omega), if_pos (by omega), bt_byte s i hlt, or_byte _ _ s[i].toNat_lt hb, w64 (by omega) (by omega), htk, ofL_snoc]
    rfl
theorem of_ev (s : ByteArray) (hs : s.size = 8) : Ev (fun k => key_Of.f k s) (((ofL s.data.toList : Nat) : Int), 0) := by
  unfold key_Of.f
  simp only [show (s.size : Int) = 8 by omega, if_true]
  exact of_l s hs 8 0 (by omega) (by omega)
theorem of_bad (s : ByteArray) (hs : s.size ≠ 8) : Ev (fun k => key_Of.f k s) (0, 10) := by
  unfold key_Of.f
  simp only [show ¬ (s.size : Int) = 8 by omega, if_false]
  exact Ev.now _

/-! the document's Num -/
theorem rnum_step (x : Nat) (hx : x < 18446744073709551616) (acc : List UInt8) (ha : acc.length ≤ 8) (i : Nat) (hi : i < 8) (k : Nat) :
    lunetteref01_Num.l0 (k + 1) (x : Int) (mk acc) (i : Int) = lunetteref01_Num.l0 k ((x / 256 : Nat) : Int) (mk (UInt8.ofNat (x % 256) :: acc)) ((i + 1 : Nat) : Int) := by
  simp only [lunetteref01_Num.l0, Option.bind_some]
  have h1 : Int.tmod (x : Int) 256 = ((x % 256 : Nat) : Int) := by rw [Int.tmod_eq_emod_of_nonneg (by omega)]; omega
  have h2 : Int.tdiv (x : Int) 256 = ((x / 256 : Nat) : Int) := by rw [Int.tdiv_eq_ediv_of_nonneg (by omega)]; omega
  have h3 : IntKind.u64.wrap ((x / 256 : Nat) : Int) = ((x / 256 : Nat) : Int) := by unfold IntKind.wrap; simp [IntKind.bits, IntKind.signed]; omega
  have h4 : strOfNums [((x % 256 : Nat) : Int) % 256] = mk [UInt8.ofNat (x % 256)] := by
    unfold strOfNums mk; simp only [List.map_cons, List.map_nil, t256, Nat.mod_mod]
  rw [if_pos (by omega), h1, h2, h3, h4, mk_size, mk_size, if_pos (by simp only [List.length_cons, List.length_nil]; omega), mk_append, w64 (by omega) (by omega)]
  rfl
theorem rnum_l (n : Nat) : ∀ (x : Nat) (acc : List UInt8) (i : Nat), x < 18446744073709551616 → i + n = 8 → acc.length = i → Ev (fun k => lunetteref01_Num.l0 k (x : Int) (mk acc) (i : Int)) (mk (beN n x ++ acc)) := by
  induction n with
  | zero =>
    intro x acc i hx hi ha
    exact Ev.step (f := fun _ => some (mk acc)) (fun k => by simp only [lunetteref01_Num.l0]; rw [if_neg (by omega)]) (Ev.now _)
  | succ n ih =>
    intro x acc i hx hi ha
    refine Ev.step (fun k => rnum_step x hx acc (by omega) i (by omega) k) ?_
    have := ih (x / 256) (UInt8.ofNat (x % 256) :: acc) (i + 1) (by omega) (by omega) (by simp [ha])
    rw [beN, List.append_assoc]
    exact this
theorem rnum_ev (m : Nat) (hm : m < 18446744073709551616) : Ev (fun k => lunetteref01_Num.f k (m : Int)) (mk (beN 8 m)) := by
  have := rnum_l 8 m [] 0 hm rfl rfl
  rw [List.append_nil] at this
  exact this

theorem u64_nat {a : Int} (h : (Lit.int .u64 a).wf = true) : ∃ m : Nat, a = (m : Int) ∧ m < 18446744073709551616 := by
  have h2 : 0 ≤ a ∧ a < 18446744073709551616 := by
    simp [Lit.wf, IntKind.min, IntKind.max, IntKind.signed, IntKind.bits] at h
    omega
  exact ⟨a.toNat, by omega, by omega⟩
theorem keyNums_ev (a b : Int) (s : ByteArray) (ha : (Lit.int .u64 a).wf = true) (hb : (Lit.int .u64 b).wf = true) : Ev (fun k => lunettelaw01_KeyNums.f k a b s) true := by
  obtain ⟨m, rfl, hm⟩ := u64_nat ha
  obtain ⟨n, rfl, hn⟩ := u64_nat hb
  have l8 : ∀ x, (mk (beN 8 x)).size = 8 := fun x => by rw [mk_size, beN_length]
  have om : ofL (beN 8 m) = m := by rw [ofL_beN]; exact Nat.mod_eq_of_lt hm
  have on : ofL (beN 8 n) = n := by rw [ofL_beN]; exact Nat.mod_eq_of_lt hn
  unfold lunettelaw01_KeyNums.f
  refine Ev.bind (num_ev m) ?_
  refine Ev.bind (num_ev n) ?_
  refine Ev.bind (of_ev (mk (beN 8 m)) (l8 m)) ?_
  rw [mk_data, om]
  by_cases hs : s.size = 8
  · refine Ev.bind (of_ev s hs) ?_
    simp only [show (s.size : Int) = 8 by omega, if_true]
    refine Ev.bind awake_ev ?_
    simp only [if_true]
    refine Ev.bind (rnum_ev m hm) ?_
    simp only [if_true]
    refine Ev.bind (below_ev _ _ (by rw [l8]; omega) (by rw [l8]; omega)) ?_
    rw [mk_data, mk_data, ofL_order _ _ (by rw [beN_length, beN_length]), om, on]
    have : (decide ((m : Int) < (n : Int)) == decide (m < n)) = true := by
      rw [beq_iff_eq, decide_eq_decide]; omega
    simp only [this, if_true]
    refine Ev.bind (num_ev (ofL s.data.toList)) ?_
    have hl : s.data.toList.length = 8 := by rw [data_length]; exact hs
    have e : mk (beN 8 (ofL s.data.toList)) = s := by
      rw [← mk_of s, mk_data]
      congr 1
      refine ofL_inj (by rw [beN_length, hl]) ?_
      rw [ofL_beN]
      have := ofL_lt s.data.toList
      rw [hl] at this
      exact Nat.mod_eq_of_lt this
    rw [e, beq_self_eq_true]
    exact Ev.now _
  · refine Ev.bind (of_bad s hs) ?_
    simp only [show ¬ (s.size : Int) = 8 by omega, if_false]
    refine Ev.bind awake_ev ?_
    simp only [if_true, beq_self_eq_true]
    exact Ev.now _
theorem keyNums_walk (w : World) (a0 : Int) (w0 : (Lit.int .u64 a0).wf = true) (a1 : Int) (w1 : (Lit.int .u64 a1).wf = true) (a2 : ByteArray) (_w2 : a2.size ≤ 140737488351232) :
    Calls Tryd.prog 7 #[.int .u64 a0, .int .u64 a1, .string a2] w fun e w' => e = .returned (.bool true) ∧ Below w.heap.size w w' := by
  obtain ⟨k, h⟩ := (keyNums_ev a0 a1 a2 w0 w1).rounds
  exact lunettelaw01_KeyNums.calls k a0 a1 a2 true w h
end Go.Proofs.YtbecojmhjkhifaaDoor.K
