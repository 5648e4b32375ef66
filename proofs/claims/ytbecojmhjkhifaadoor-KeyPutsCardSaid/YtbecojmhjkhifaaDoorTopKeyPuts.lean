/- Lemmas of this claim's own proof; conditions: as each states. -/
import Derived.Test.YtbecojmhjkhifaaDoorG2
import Derived.Test.YtbecojmhjkhifaaDoorP8
namespace Go.Proofs.YtbecojmhjkhifaaDoor.K
set_option linter.unusedVariables false
set_option linter.unusedSimpArgs false
open Go.RowKit Go.Proofs.YtbecojmhjkhifaaDoorW.PrintWords Go.Proofs.YtbecojmhjkhifaaDoorW.PrintLast Go.Proofs.YtbecojmhjkhifaaDoorW.PrintMore
open Go.Proofs.YtbecojmhjkhifaaDoor.PL

theorem keyPuts_ev (l : List ByteArray) (hl : l.length ≤ 9223372036854775807) : Ev (fun k => lunettelaw01_KeyPuts.f k l) true := by
  unfold lunettelaw01_KeyPuts.f
  refine Ev.bind (few_ev l hl) ?_
  cases hf : fewB l with
  | false => exact Ev.bind awake_ev (Ev.now _)
  | true =>
    have hs := put_small hf
    have hn := few_len hf
    have hb : (putL (bytesAll l)).length ≤ 1099511627776 := by omega
    have h1 : 0 + l.length < 8796093022208 := by omega
    simp only [if_true, Option.bind_some, List.nil_append, List.length_nil, h1, put_f hb, get_f_put hb]
    refine Ev.bind awake_ev ?_
    simp only [if_true]
    refine Ev.bind (rput_ev l hb) ?_
    show Ev (fun k => if (mk (putL (bytesAll l))).toList = (mk (putL (bytesAll l))).toList then _ else _) true
    simp only [if_true]
    refine Ev.bind (same_ev l l hl) ?_
    simp only [decide_true]
    exact Ev.now _
theorem keyPuts_walk (w : World) (a0 : Option Addr) (c0 : Nat) (l0 : List ByteArray) (hr0 : Kd.C Kd.string w a0 l0.length l0) (hm0 : l0.length ≤ maxLen) (hc0 : l0.length ≤ c0) :
    Calls Tryd.prog 3 #[.slice a0 l0.length c0] w fun e w' => e = .returned (.bool true) ∧ Below w.heap.size w w' := by
  obtain ⟨k, h⟩ := (keyPuts_ev l0 hm0).rounds
  exact lunettelaw01_KeyPuts.calls k a0 c0 l0 true w hr0 hc0 h
end Go.Proofs.YtbecojmhjkhifaaDoor.K
