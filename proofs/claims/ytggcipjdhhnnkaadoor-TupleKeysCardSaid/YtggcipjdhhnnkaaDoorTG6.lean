/- Key and Back, as plain functions; conditions: as each states. -/
import Derived.Test.YtggcipjdhhnnkaaDoorTG5
import Derived.Test.YtggcipjdhhnnkaaDoorPMa
import Derived.Test.YtggcipjdhhnnkaaDoorP24
namespace Go.Proofs.YtggcipjdhhnnkaaDoor.K
set_option linter.unusedVariables false
set_option linter.unusedSimpArgs false
open Go.RowKit Go.Proofs.YtggcipjdhhnnkaaDoorW.PrintWords Go.Proofs.YtggcipjdhhnnkaaDoorW.PrintLast Go.Proofs.YtggcipjdhhnnkaaDoorW.PrintMore
open Go.Proofs.YtggcipjdhhnnkaaDoor.PL


def fPart : ByteArray := ⟨#[102]⟩
def rPart : ByteArray := ⟨#[114]⟩
/-! sizes -/
theorem esc_clean {s : ByteArray} (h : Clean s.data.toList) : (escL s.data.toList).length = s.size := by
  rw [escL_none _ (fun c hc => (h c hc).2.2.2), data_length]
theorem put_length (p : ByteArray) (l : List ByteArray) : (putL (bytesAll (p :: l))).length = (escL p.data.toList).length + 2 + (putL (bytesAll l)).length := by
  rw [show bytesAll (p :: l) = p.data.toList :: bytesAll l from rfl, putL_cons]
  simp only [List.length_append, List.length_cons, List.length_nil]
theorem put7_length {p a b c d e f : ByteArray} (hp : (escL p.data.toList).length = 1) (u : UserF a b c) (v : UserF d e f) :
    (putL (bytesAll [p, a, b, c, d, e, f])).length = a.size + b.size + c.size + d.size + e.size + f.size + 15 := by
  rw [put_length, put_length, put_length, put_length, put_length, put_length, put_length, hp, esc_clean u.ca, esc_clean u.cb, esc_clean u.cc, esc_clean v.ca, esc_clean v.cb, esc_clean v.cc,
    show bytesAll [] = [] from rfl, putL_nil, List.length_nil]
  omega
theorem f_one : (escL fPart.data.toList).length = 1 := by decide
theorem r_one : (escL rPart.data.toList).length = 1 := by decide
def keyOf (a b c d e f : ByteArray) : ByteArray := mk (putL (bytesAll [fPart, a, b, c, d, e, f]))
def backOf (a b c d e f : ByteArray) : ByteArray := mk (putL (bytesAll [rPart, d, e, f, a, b, c]))
theorem key_size {a b c d e f : ByteArray} (h : chkP a b c d e f = true) : (putL (bytesAll [fPart, a, b, c, d, e, f])).length ≤ 95 ∧ (putL (bytesAll [rPart, d, e, f, a, b, c])).length = (putL (bytesAll [fPart, a, b, c, d, e, f])).length := by
  obtain ⟨u, v, _⟩ := chk_parts h
  have := u.sa; have := u.sb; have := u.sc; have := v.sa; have := v.sb; have := v.sc
  rw [put7_length f_one u v, put7_length r_one v u]
  omega
theorem tkey (a b c d e f : ByteArray) : tuple_Key.f a b c d e f = some (if chkP a b c d e f = true then (keyOf a b c d e f, 0) else ((⟨#[]⟩ : ByteArray), 111)) := by
  unfold tuple_Key.f
  rw [tcheck]
  by_cases h : chkP a b c d e f = true
  · have hs := (key_size h).1
    have hp := put_f (l := [fPart, a, b, c, d, e, f]) (by omega)
    rw [if_pos h, if_pos h]
    simp only [Option.bind_some, if_true, tuple_parts.f]
    rw [if_pos (by simp)]
    show (key_Put.f [fPart, a, b, c, d, e, f]).bind _ = _
    rw [hp]; rfl
  · rw [if_neg h, if_neg h]; rfl
theorem tback (a b c d e f : ByteArray) : tuple_Back.f a b c d e f = some (if chkP a b c d e f = true then (backOf a b c d e f, 0) else ((⟨#[]⟩ : ByteArray), 111)) := by
  unfold tuple_Back.f
  rw [tcheck]
  by_cases h : chkP a b c d e f = true
  · have hs := key_size h
    have hp := put_f (l := [rPart, d, e, f, a, b, c]) (by omega)
    rw [if_pos h, if_pos h]
    simp only [Option.bind_some, if_true]
    show (key_Put.f [rPart, d, e, f, a, b, c]).bind _ = _
    rw [hp]; rfl
  · rw [if_neg h, if_neg h]; rfl
end Go.Proofs.YtggcipjdhhnnkaaDoor.K
