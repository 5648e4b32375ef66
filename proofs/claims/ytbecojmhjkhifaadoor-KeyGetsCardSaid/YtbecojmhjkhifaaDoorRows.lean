/-
  NARROWER THAN 'FOR EVERY INPUT', by the rows' own cells (each row's printed sentence says how): KeyPuts: laid · KeyGets: laid · KeyBegins: laid · KeyAfter: laid · KeyNums: laid · KeyMiddle: laid · KeyApart: laid · KeyConcat: laid · KeyOrder: laid · KeyTotal: laid.
  DERIVED. THE GIVEN ROWS OF THIS SEAT. 10 by the template 'for every input the law returns true; each argument reads behind the call as it read before'; 0 by the template 'total and deterministic' (their statements: YtbecojmhjkhifaaDoorTotals.lean).
  GIVEN WITH THE SEED: the statements are not yours to turn. If you find one false, say at which input.
  Laid BY PROGRAM, IN A SANDBOX (cutbox-rows.mjs): the forced cells as the released guide's own fill.sh prints them over the translation d5d5b11162d76c18… (all of the seat's roots in one cut). By AI agents, Wed Nov 11 2026. No macro, syntax, notation, axiom, sorry.
-/
import Derived.Test.YtbecojmhjkhifaaDoorChecked
import GoSem.PinnedTables
import GoSem.Claim
import GoSem.ClaimJoined
import GoSem.ClaimMapViews
import Derived.JoinedTies
import Derived.KernelRfl
namespace Go.Proofs.YtbecojmhjkhifaaDoor
/- THE CELL 'sum', in the pinned program and in every row, IS THE sha256 OF THE DUMP (.gsa) THAT YtbecojmhjkhifaaDoorProg.lean LOADS. Nothing in Lean hashes anything: it is a label: what it is worth is what the hold of that sum in a sandbox is worth. -/
noncomputable def Tryd.pinned : Pinned := { name := "ytbecojmhjkhifaadoor", sum := "d5d5b11162d76c18bbef220fcec652f1c6b4134d71cfdd124c0b83fd08d5310e", checked := Tryd.checked }
namespace Rows
def none {H : Type} : Left H := { results := [], args := [] }

/- WHAT THE LISTED PACKAGE-LEVEL VARIABLES READ AS WHEN THE CALL BEGINS. Each datum BY PROGRAM (the guide's laid-datum.mjs) off the statement by which the dump's own 'gosem.cut.vars' lays the variable. In a bare row this is a premise. The card (YtbecojmhjkhifaaDoorCards.lean) ties it to the program's text. -/
def laid_unicode_utf8_acceptRanges {H : Type} : DataW H := .agg [.agg [.lit (.int .u8 128), .lit (.int .u8 191)], .agg [.lit (.int .u8 160), .lit (.int .u8 191)], .agg [.lit (.int .u8 128), .lit (.int .u8 159)], .agg [.lit (.int .u8 144), .lit (.int .u8 191)], .agg [.lit (.int .u8 128), .lit (.int .u8 143)], .agg [.lit (.int .u8 0), .lit (.int .u8 0)], .agg [.lit (.int .u8 0), .lit (.int .u8 0)], .agg [.lit (.int .u8 0), .lit (.int .u8 0)], .agg [.lit (.int .u8 0), .lit (.int .u8 0)], .agg [.lit (.int .u8 0), .lit (.int .u8 0)], .agg [.lit (.int .u8 0), .lit (.int .u8 0)], .agg [.lit (.int .u8 0), .lit (.int .u8 0)], .agg [.lit (.int .u8 0), .lit (.int .u8 0)], .agg [.lit (.int .u8 0), .lit (.int .u8 0)], .agg [.lit (.int .u8 0), .lit (.int .u8 0)], .agg [.lit (.int .u8 0), .lit (.int .u8 0)]]
/-- One of Go's own tables, pinned by name: the form's constant. -/
def laid_unicode_utf8_first : DataW Unit := Go.Pinned.utf8First

/-- 'lunettelaw01.KeyPuts': WHATEVER THE INPUT: true; the input reads as it did. -/
def keyPutsSpec : ChangeSpec := { name := "keyPuts", fn := fun _ => fun
  | [d] => { results := [.lit (.bool true)], args := [d] }
  | _ => none }
def keyPutsRow : OpenClaim := { program := "ytbecojmhjkhifaadoor", sum := "d5d5b11162d76c18bbef220fcec652f1c6b4134d71cfdd124c0b83fd08d5310e", func := "lunette/lunettelaw01.KeyPuts", spec := "keyPuts", inPlace := ["internal/bytealg.CountString", "internal/bytealg.IndexByteString", "internal/bytealg.IndexString", "internal/abi.NoEscape", "internal/bytealg.MakeNoZero"], unfollowed := true, recurses := true, named := ["internal/bytealg.MaxLen", "unicode/utf8.first", "unicode/utf8.acceptRanges"], apart := false, laid := [("unicode/utf8.acceptRanges", laid_unicode_utf8_acceptRanges), ("unicode/utf8.first", laid_unicode_utf8_first)] }
def KeyPutsSaid : Prop := keyPutsRow.holds Tryd.pinned (OpenSpec.ofChange keyPutsSpec)

/-- ITS FALSE NEIGHBOUR: 'it returns false'. Refute it at one input. -/
def keyPutsWrong : ChangeSpec := { name := "keyPuts", fn := fun _ => fun
  | [d] => { results := [.lit (.bool false)], args := [d] }
  | _ => none }
def KeyPutsWrongFalsely : Prop := keyPutsRow.holds Tryd.pinned (OpenSpec.ofChange keyPutsWrong)

/-- 'lunettelaw01.KeyGets': WHATEVER THE INPUT: true; the input reads as it did. -/
def keyGetsSpec : ChangeSpec := { name := "keyGets", fn := fun _ => fun
  | [d] => { results := [.lit (.bool true)], args := [d] }
  | _ => none }
def keyGetsRow : OpenClaim := { program := "ytbecojmhjkhifaadoor", sum := "d5d5b11162d76c18bbef220fcec652f1c6b4134d71cfdd124c0b83fd08d5310e", func := "lunette/lunettelaw01.KeyGets", spec := "keyGets", inPlace := ["internal/bytealg.CountString", "internal/bytealg.IndexByteString", "internal/bytealg.IndexString", "internal/abi.NoEscape", "internal/bytealg.MakeNoZero"], unfollowed := true, recurses := true, named := ["internal/bytealg.MaxLen", "unicode/utf8.first", "unicode/utf8.acceptRanges"], apart := false, laid := [("unicode/utf8.acceptRanges", laid_unicode_utf8_acceptRanges), ("unicode/utf8.first", laid_unicode_utf8_first)] }
def KeyGetsSaid : Prop := keyGetsRow.holds Tryd.pinned (OpenSpec.ofChange keyGetsSpec)

/-- ITS FALSE NEIGHBOUR: 'it returns false'. Refute it at one input. -/
def keyGetsWrong : ChangeSpec := { name := "keyGets", fn := fun _ => fun
  | [d] => { results := [.lit (.bool false)], args := [d] }
  | _ => none }
def KeyGetsWrongFalsely : Prop := keyGetsRow.holds Tryd.pinned (OpenSpec.ofChange keyGetsWrong)

/-- 'lunettelaw01.KeyBegins': WHATEVER THE INPUT: true; the input reads as it did. -/
def keyBeginsSpec : ChangeSpec := { name := "keyBegins", fn := fun _ => fun
  | [d1, d2] => { results := [.lit (.bool true)], args := [d1, d2] }
  | _ => none }
def keyBeginsRow : OpenClaim := { program := "ytbecojmhjkhifaadoor", sum := "d5d5b11162d76c18bbef220fcec652f1c6b4134d71cfdd124c0b83fd08d5310e", func := "lunette/lunettelaw01.KeyBegins", spec := "keyBegins", inPlace := ["internal/bytealg.CountString", "internal/bytealg.IndexByteString", "internal/bytealg.IndexString", "internal/abi.NoEscape", "internal/bytealg.MakeNoZero"], unfollowed := true, recurses := true, named := ["internal/bytealg.MaxLen", "unicode/utf8.first", "unicode/utf8.acceptRanges"], apart := false, laid := [("unicode/utf8.acceptRanges", laid_unicode_utf8_acceptRanges), ("unicode/utf8.first", laid_unicode_utf8_first)] }
def KeyBeginsSaid : Prop := keyBeginsRow.holds Tryd.pinned (OpenSpec.ofChange keyBeginsSpec)

/-- ITS FALSE NEIGHBOUR: 'it returns false'. Refute it at one input. -/
def keyBeginsWrong : ChangeSpec := { name := "keyBegins", fn := fun _ => fun
  | [d1, d2] => { results := [.lit (.bool false)], args := [d1, d2] }
  | _ => none }
def KeyBeginsWrongFalsely : Prop := keyBeginsRow.holds Tryd.pinned (OpenSpec.ofChange keyBeginsWrong)

/-- 'lunettelaw01.KeyAfter': WHATEVER THE INPUT: true; the input reads as it did. -/
def keyAfterSpec : ChangeSpec := { name := "keyAfter", fn := fun _ => fun
  | [d1, d2] => { results := [.lit (.bool true)], args := [d1, d2] }
  | _ => none }
def keyAfterRow : OpenClaim := { program := "ytbecojmhjkhifaadoor", sum := "d5d5b11162d76c18bbef220fcec652f1c6b4134d71cfdd124c0b83fd08d5310e", func := "lunette/lunettelaw01.KeyAfter", spec := "keyAfter", inPlace := ["internal/bytealg.CountString", "internal/bytealg.IndexByteString", "internal/bytealg.IndexString", "internal/abi.NoEscape", "internal/bytealg.MakeNoZero"], unfollowed := true, recurses := true, named := ["internal/bytealg.MaxLen", "unicode/utf8.first", "unicode/utf8.acceptRanges"], apart := false, laid := [("unicode/utf8.acceptRanges", laid_unicode_utf8_acceptRanges), ("unicode/utf8.first", laid_unicode_utf8_first)] }
def KeyAfterSaid : Prop := keyAfterRow.holds Tryd.pinned (OpenSpec.ofChange keyAfterSpec)

/-- ITS FALSE NEIGHBOUR: 'it returns false'. Refute it at one input. -/
def keyAfterWrong : ChangeSpec := { name := "keyAfter", fn := fun _ => fun
  | [d1, d2] => { results := [.lit (.bool false)], args := [d1, d2] }
  | _ => none }
def KeyAfterWrongFalsely : Prop := keyAfterRow.holds Tryd.pinned (OpenSpec.ofChange keyAfterWrong)

/-- 'lunettelaw01.KeyNums': WHATEVER THE INPUT: true; the input reads as it did. -/
def keyNumsSpec : ChangeSpec := { name := "keyNums", fn := fun _ => fun
  | [d1, d2, d3] => { results := [.lit (.bool true)], args := [d1, d2, d3] }
  | _ => none }
def keyNumsRow : OpenClaim := { program := "ytbecojmhjkhifaadoor", sum := "d5d5b11162d76c18bbef220fcec652f1c6b4134d71cfdd124c0b83fd08d5310e", func := "lunette/lunettelaw01.KeyNums", spec := "keyNums", inPlace := ["internal/bytealg.CountString", "internal/bytealg.IndexByteString", "internal/bytealg.IndexString", "internal/abi.NoEscape", "internal/bytealg.MakeNoZero"], unfollowed := true, recurses := true, named := ["internal/bytealg.MaxLen", "unicode/utf8.first", "unicode/utf8.acceptRanges"], apart := false, laid := [("unicode/utf8.acceptRanges", laid_unicode_utf8_acceptRanges), ("unicode/utf8.first", laid_unicode_utf8_first)] }
def KeyNumsSaid : Prop := keyNumsRow.holds Tryd.pinned (OpenSpec.ofChange keyNumsSpec)

/-- ITS FALSE NEIGHBOUR: 'it returns false'. Refute it at one input. -/
def keyNumsWrong : ChangeSpec := { name := "keyNums", fn := fun _ => fun
  | [d1, d2, d3] => { results := [.lit (.bool false)], args := [d1, d2, d3] }
  | _ => none }
def KeyNumsWrongFalsely : Prop := keyNumsRow.holds Tryd.pinned (OpenSpec.ofChange keyNumsWrong)

/-- 'lunettelaw01.KeyMiddle': WHATEVER THE INPUT: true; the input reads as it did. -/
def keyMiddleSpec : ChangeSpec := { name := "keyMiddle", fn := fun _ => fun
  | [d1, d2] => { results := [.lit (.bool true)], args := [d1, d2] }
  | _ => none }
def keyMiddleRow : OpenClaim := { program := "ytbecojmhjkhifaadoor", sum := "d5d5b11162d76c18bbef220fcec652f1c6b4134d71cfdd124c0b83fd08d5310e", func := "lunette/lunettelaw01.KeyMiddle", spec := "keyMiddle", inPlace := ["internal/bytealg.CountString", "internal/bytealg.IndexByteString", "internal/bytealg.IndexString", "internal/abi.NoEscape", "internal/bytealg.MakeNoZero"], unfollowed := true, recurses := true, named := ["internal/bytealg.MaxLen", "unicode/utf8.first", "unicode/utf8.acceptRanges"], apart := false, laid := [("unicode/utf8.acceptRanges", laid_unicode_utf8_acceptRanges), ("unicode/utf8.first", laid_unicode_utf8_first)] }
def KeyMiddleSaid : Prop := keyMiddleRow.holds Tryd.pinned (OpenSpec.ofChange keyMiddleSpec)

/-- ITS FALSE NEIGHBOUR: 'it returns false'. Refute it at one input. -/
def keyMiddleWrong : ChangeSpec := { name := "keyMiddle", fn := fun _ => fun
  | [d1, d2] => { results := [.lit (.bool false)], args := [d1, d2] }
  | _ => none }
def KeyMiddleWrongFalsely : Prop := keyMiddleRow.holds Tryd.pinned (OpenSpec.ofChange keyMiddleWrong)

/-- 'lunettelaw01.KeyApart': WHATEVER THE INPUT: true; the input reads as it did. -/
def keyApartSpec : ChangeSpec := { name := "keyApart", fn := fun _ => fun
  | [d1, d2] => { results := [.lit (.bool true)], args := [d1, d2] }
  | _ => none }
def keyApartRow : OpenClaim := { program := "ytbecojmhjkhifaadoor", sum := "d5d5b11162d76c18bbef220fcec652f1c6b4134d71cfdd124c0b83fd08d5310e", func := "lunette/lunettelaw01.KeyApart", spec := "keyApart", inPlace := ["internal/bytealg.CountString", "internal/bytealg.IndexByteString", "internal/bytealg.IndexString", "internal/abi.NoEscape", "internal/bytealg.MakeNoZero"], unfollowed := true, recurses := true, named := ["internal/bytealg.MaxLen", "unicode/utf8.first", "unicode/utf8.acceptRanges"], apart := false, laid := [("unicode/utf8.acceptRanges", laid_unicode_utf8_acceptRanges), ("unicode/utf8.first", laid_unicode_utf8_first)] }
def KeyApartSaid : Prop := keyApartRow.holds Tryd.pinned (OpenSpec.ofChange keyApartSpec)

/-- ITS FALSE NEIGHBOUR: 'it returns false'. Refute it at one input. -/
def keyApartWrong : ChangeSpec := { name := "keyApart", fn := fun _ => fun
  | [d1, d2] => { results := [.lit (.bool false)], args := [d1, d2] }
  | _ => none }
def KeyApartWrongFalsely : Prop := keyApartRow.holds Tryd.pinned (OpenSpec.ofChange keyApartWrong)

/-- 'lunettelaw01.KeyConcat': WHATEVER THE INPUT: true; the input reads as it did. -/
def keyConcatSpec : ChangeSpec := { name := "keyConcat", fn := fun _ => fun
  | [d1, d2] => { results := [.lit (.bool true)], args := [d1, d2] }
  | _ => none }
def keyConcatRow : OpenClaim := { program := "ytbecojmhjkhifaadoor", sum := "d5d5b11162d76c18bbef220fcec652f1c6b4134d71cfdd124c0b83fd08d5310e", func := "lunette/lunettelaw01.KeyConcat", spec := "keyConcat", inPlace := ["internal/bytealg.CountString", "internal/bytealg.IndexByteString", "internal/bytealg.IndexString", "internal/abi.NoEscape", "internal/bytealg.MakeNoZero"], unfollowed := true, recurses := true, named := ["internal/bytealg.MaxLen", "unicode/utf8.first", "unicode/utf8.acceptRanges"], apart := false, laid := [("unicode/utf8.acceptRanges", laid_unicode_utf8_acceptRanges), ("unicode/utf8.first", laid_unicode_utf8_first)] }
def KeyConcatSaid : Prop := keyConcatRow.holds Tryd.pinned (OpenSpec.ofChange keyConcatSpec)

/-- ITS FALSE NEIGHBOUR: 'it returns false'. Refute it at one input. -/
def keyConcatWrong : ChangeSpec := { name := "keyConcat", fn := fun _ => fun
  | [d1, d2] => { results := [.lit (.bool false)], args := [d1, d2] }
  | _ => none }
def KeyConcatWrongFalsely : Prop := keyConcatRow.holds Tryd.pinned (OpenSpec.ofChange keyConcatWrong)

/-- 'lunettelaw01.KeyOrder': WHATEVER THE INPUT: true; the input reads as it did. -/
def keyOrderSpec : ChangeSpec := { name := "keyOrder", fn := fun _ => fun
  | [d1, d2] => { results := [.lit (.bool true)], args := [d1, d2] }
  | _ => none }
def keyOrderRow : OpenClaim := { program := "ytbecojmhjkhifaadoor", sum := "d5d5b11162d76c18bbef220fcec652f1c6b4134d71cfdd124c0b83fd08d5310e", func := "lunette/lunettelaw01.KeyOrder", spec := "keyOrder", inPlace := ["internal/bytealg.CountString", "internal/bytealg.IndexByteString", "internal/bytealg.IndexString", "internal/abi.NoEscape", "internal/bytealg.MakeNoZero"], unfollowed := true, recurses := true, named := ["internal/bytealg.MaxLen", "unicode/utf8.first", "unicode/utf8.acceptRanges"], apart := false, laid := [("unicode/utf8.acceptRanges", laid_unicode_utf8_acceptRanges), ("unicode/utf8.first", laid_unicode_utf8_first)] }
def KeyOrderSaid : Prop := keyOrderRow.holds Tryd.pinned (OpenSpec.ofChange keyOrderSpec)

/-- ITS FALSE NEIGHBOUR: 'it returns false'. Refute it at one input. -/
def keyOrderWrong : ChangeSpec := { name := "keyOrder", fn := fun _ => fun
  | [d1, d2] => { results := [.lit (.bool false)], args := [d1, d2] }
  | _ => none }
def KeyOrderWrongFalsely : Prop := keyOrderRow.holds Tryd.pinned (OpenSpec.ofChange keyOrderWrong)

/-- 'lunettelaw01.KeyTotal': WHATEVER THE INPUT: true; the input reads as it did. -/
def keyTotalSpec : ChangeSpec := { name := "keyTotal", fn := fun _ => fun
  | [d1, d2, d3] => { results := [.lit (.bool true)], args := [d1, d2, d3] }
  | _ => none }
def keyTotalRow : OpenClaim := { program := "ytbecojmhjkhifaadoor", sum := "d5d5b11162d76c18bbef220fcec652f1c6b4134d71cfdd124c0b83fd08d5310e", func := "lunette/lunettelaw01.KeyTotal", spec := "keyTotal", inPlace := ["internal/bytealg.CountString", "internal/bytealg.IndexByteString", "internal/bytealg.IndexString", "internal/abi.NoEscape", "internal/bytealg.MakeNoZero"], unfollowed := true, recurses := true, named := ["internal/bytealg.MaxLen", "unicode/utf8.first", "unicode/utf8.acceptRanges"], apart := false, laid := [("unicode/utf8.acceptRanges", laid_unicode_utf8_acceptRanges), ("unicode/utf8.first", laid_unicode_utf8_first)] }
def KeyTotalSaid : Prop := keyTotalRow.holds Tryd.pinned (OpenSpec.ofChange keyTotalSpec)

/-- ITS FALSE NEIGHBOUR: 'it returns false'. Refute it at one input. -/
def keyTotalWrong : ChangeSpec := { name := "keyTotal", fn := fun _ => fun
  | [d1, d2, d3] => { results := [.lit (.bool false)], args := [d1, d2, d3] }
  | _ => none }
def KeyTotalWrongFalsely : Prop := keyTotalRow.holds Tryd.pinned (OpenSpec.ofChange keyTotalWrong)

/- THE SECOND FORM. 'bulk': how many values and letters a reading holds, each counted each time it is reached (what is shared counts as often as it is met; a slice's spare places count too). A statement '..UptoSaid' is the law's where the arguments, and the package variables that the reading takes, are together of bulk at most 1048576: NARROWER than '..Said'. Prove '..Said' where nothing that the law and all that it calls make is longer than what came in: it says more and counts as full. Else prove '..UptoSaid'. A law counts once. -/
mutual
def uptoBulk {H : Type} : DataW H → Nat
  | .lit (.string bytes) => bytes.length + 1
  | .lit _ => 1
  | .nil => 1
  | .ptr d => uptoBulk d + 1
  | .slice elems spare => uptoBulkAll elems + uptoBulkAll spare + 1
  | .agg parts => uptoBulkAll parts + 1
  | .iface _ d => uptoBulk d + 1
  | .map entries => uptoBulkEntries entries + 1
  | .held _ => 1
def uptoBulkAll {H : Type} : List (DataW H) → Nat
  | [] => 0
  | d :: r => uptoBulk d + uptoBulkAll r
def uptoBulkEntries {H : Type} : List (Lit × DataW H) → Nat
  | [] => 0
  | x :: r => uptoBulkEntry x + uptoBulkEntries r
def uptoBulkEntry {H : Type} : Lit × DataW H → Nat
  | (.string bytes, d) => bytes.length + uptoBulk d + 1
  | (_, d) => uptoBulk d + 1
 end
def uptoSmall : (H : Type) → List (DataW H) → Bool := fun _ ds => decide (uptoBulkAll ds ≤ 1048576)
def OpenSpec.upto (s : _root_.Go.ChangeSpec) : _root_.Go.OpenSpec := { _root_.Go.OpenSpec.ofChange s with cond := some uptoSmall }

/-- 'lunettelaw01.KeyPuts', WHERE WHAT IT READS IS OF BULK AT MOST 1048576: true; the input reads as it did. -/
def keyPutsUptoRow : OpenClaim := { program := "ytbecojmhjkhifaadoor", sum := "d5d5b11162d76c18bbef220fcec652f1c6b4134d71cfdd124c0b83fd08d5310e", func := "lunette/lunettelaw01.KeyPuts", spec := "keyPuts", inPlace := ["internal/bytealg.CountString", "internal/bytealg.IndexByteString", "internal/bytealg.IndexString", "internal/abi.NoEscape", "internal/bytealg.MakeNoZero"], unfollowed := true, recurses := true, named := ["internal/bytealg.MaxLen", "unicode/utf8.first", "unicode/utf8.acceptRanges"], apart := false, laid := [("unicode/utf8.acceptRanges", laid_unicode_utf8_acceptRanges), ("unicode/utf8.first", laid_unicode_utf8_first)], narrowed := true }
def KeyPutsUptoSaid : Prop := keyPutsUptoRow.holds Tryd.pinned (OpenSpec.upto keyPutsSpec)

/-- 'lunettelaw01.KeyGets', WHERE WHAT IT READS IS OF BULK AT MOST 1048576: true; the input reads as it did. -/
def keyGetsUptoRow : OpenClaim := { program := "ytbecojmhjkhifaadoor", sum := "d5d5b11162d76c18bbef220fcec652f1c6b4134d71cfdd124c0b83fd08d5310e", func := "lunette/lunettelaw01.KeyGets", spec := "keyGets", inPlace := ["internal/bytealg.CountString", "internal/bytealg.IndexByteString", "internal/bytealg.IndexString", "internal/abi.NoEscape", "internal/bytealg.MakeNoZero"], unfollowed := true, recurses := true, named := ["internal/bytealg.MaxLen", "unicode/utf8.first", "unicode/utf8.acceptRanges"], apart := false, laid := [("unicode/utf8.acceptRanges", laid_unicode_utf8_acceptRanges), ("unicode/utf8.first", laid_unicode_utf8_first)], narrowed := true }
def KeyGetsUptoSaid : Prop := keyGetsUptoRow.holds Tryd.pinned (OpenSpec.upto keyGetsSpec)

/-- 'lunettelaw01.KeyBegins', WHERE WHAT IT READS IS OF BULK AT MOST 1048576: true; the input reads as it did. -/
def keyBeginsUptoRow : OpenClaim := { program := "ytbecojmhjkhifaadoor", sum := "d5d5b11162d76c18bbef220fcec652f1c6b4134d71cfdd124c0b83fd08d5310e", func := "lunette/lunettelaw01.KeyBegins", spec := "keyBegins", inPlace := ["internal/bytealg.CountString", "internal/bytealg.IndexByteString", "internal/bytealg.IndexString", "internal/abi.NoEscape", "internal/bytealg.MakeNoZero"], unfollowed := true, recurses := true, named := ["internal/bytealg.MaxLen", "unicode/utf8.first", "unicode/utf8.acceptRanges"], apart := false, laid := [("unicode/utf8.acceptRanges", laid_unicode_utf8_acceptRanges), ("unicode/utf8.first", laid_unicode_utf8_first)], narrowed := true }
def KeyBeginsUptoSaid : Prop := keyBeginsUptoRow.holds Tryd.pinned (OpenSpec.upto keyBeginsSpec)

/-- 'lunettelaw01.KeyAfter', WHERE WHAT IT READS IS OF BULK AT MOST 1048576: true; the input reads as it did. -/
def keyAfterUptoRow : OpenClaim := { program := "ytbecojmhjkhifaadoor", sum := "d5d5b11162d76c18bbef220fcec652f1c6b4134d71cfdd124c0b83fd08d5310e", func := "lunette/lunettelaw01.KeyAfter", spec := "keyAfter", inPlace := ["internal/bytealg.CountString", "internal/bytealg.IndexByteString", "internal/bytealg.IndexString", "internal/abi.NoEscape", "internal/bytealg.MakeNoZero"], unfollowed := true, recurses := true, named := ["internal/bytealg.MaxLen", "unicode/utf8.first", "unicode/utf8.acceptRanges"], apart := false, laid := [("unicode/utf8.acceptRanges", laid_unicode_utf8_acceptRanges), ("unicode/utf8.first", laid_unicode_utf8_first)], narrowed := true }
def KeyAfterUptoSaid : Prop := keyAfterUptoRow.holds Tryd.pinned (OpenSpec.upto keyAfterSpec)

/-- 'lunettelaw01.KeyNums', WHERE WHAT IT READS IS OF BULK AT MOST 1048576: true; the input reads as it did. -/
def keyNumsUptoRow : OpenClaim := { program := "ytbecojmhjkhifaadoor", sum := "d5d5b11162d76c18bbef220fcec652f1c6b4134d71cfdd124c0b83fd08d5310e", func := "lunette/lunettelaw01.KeyNums", spec := "keyNums", inPlace := ["internal/bytealg.CountString", "internal/bytealg.IndexByteString", "internal/bytealg.IndexString", "internal/abi.NoEscape", "internal/bytealg.MakeNoZero"], unfollowed := true, recurses := true, named := ["internal/bytealg.MaxLen", "unicode/utf8.first", "unicode/utf8.acceptRanges"], apart := false, laid := [("unicode/utf8.acceptRanges", laid_unicode_utf8_acceptRanges), ("unicode/utf8.first", laid_unicode_utf8_first)], narrowed := true }
def KeyNumsUptoSaid : Prop := keyNumsUptoRow.holds Tryd.pinned (OpenSpec.upto keyNumsSpec)

/-- 'lunettelaw01.KeyMiddle', WHERE WHAT IT READS IS OF BULK AT MOST 1048576: true; the input reads as it did. -/
def keyMiddleUptoRow : OpenClaim := { program := "ytbecojmhjkhifaadoor", sum := "d5d5b11162d76c18bbef220fcec652f1c6b4134d71cfdd124c0b83fd08d5310e", func := "lunette/lunettelaw01.KeyMiddle", spec := "keyMiddle", inPlace := ["internal/bytealg.CountString", "internal/bytealg.IndexByteString", "internal/bytealg.IndexString", "internal/abi.NoEscape", "internal/bytealg.MakeNoZero"], unfollowed := true, recurses := true, named := ["internal/bytealg.MaxLen", "unicode/utf8.first", "unicode/utf8.acceptRanges"], apart := false, laid := [("unicode/utf8.acceptRanges", laid_unicode_utf8_acceptRanges), ("unicode/utf8.first", laid_unicode_utf8_first)], narrowed := true }
def KeyMiddleUptoSaid : Prop := keyMiddleUptoRow.holds Tryd.pinned (OpenSpec.upto keyMiddleSpec)

/-- 'lunettelaw01.KeyApart', WHERE WHAT IT READS IS OF BULK AT MOST 1048576: true; the input reads as it did. -/
def keyApartUptoRow : OpenClaim := { program := "ytbecojmhjkhifaadoor", sum := "d5d5b11162d76c18bbef220fcec652f1c6b4134d71cfdd124c0b83fd08d5310e", func := "lunette/lunettelaw01.KeyApart", spec := "keyApart", inPlace := ["internal/bytealg.CountString", "internal/bytealg.IndexByteString", "internal/bytealg.IndexString", "internal/abi.NoEscape", "internal/bytealg.MakeNoZero"], unfollowed := true, recurses := true, named := ["internal/bytealg.MaxLen", "unicode/utf8.first", "unicode/utf8.acceptRanges"], apart := false, laid := [("unicode/utf8.acceptRanges", laid_unicode_utf8_acceptRanges), ("unicode/utf8.first", laid_unicode_utf8_first)], narrowed := true }
def KeyApartUptoSaid : Prop := keyApartUptoRow.holds Tryd.pinned (OpenSpec.upto keyApartSpec)

/-- 'lunettelaw01.KeyConcat', WHERE WHAT IT READS IS OF BULK AT MOST 1048576: true; the input reads as it did. -/
def keyConcatUptoRow : OpenClaim := { program := "ytbecojmhjkhifaadoor", sum := "d5d5b11162d76c18bbef220fcec652f1c6b4134d71cfdd124c0b83fd08d5310e", func := "lunette/lunettelaw01.KeyConcat", spec := "keyConcat", inPlace := ["internal/bytealg.CountString", "internal/bytealg.IndexByteString", "internal/bytealg.IndexString", "internal/abi.NoEscape", "internal/bytealg.MakeNoZero"], unfollowed := true, recurses := true, named := ["internal/bytealg.MaxLen", "unicode/utf8.first", "unicode/utf8.acceptRanges"], apart := false, laid := [("unicode/utf8.acceptRanges", laid_unicode_utf8_acceptRanges), ("unicode/utf8.first", laid_unicode_utf8_first)], narrowed := true }
def KeyConcatUptoSaid : Prop := keyConcatUptoRow.holds Tryd.pinned (OpenSpec.upto keyConcatSpec)

/-- 'lunettelaw01.KeyOrder', WHERE WHAT IT READS IS OF BULK AT MOST 1048576: true; the input reads as it did. -/
def keyOrderUptoRow : OpenClaim := { program := "ytbecojmhjkhifaadoor", sum := "d5d5b11162d76c18bbef220fcec652f1c6b4134d71cfdd124c0b83fd08d5310e", func := "lunette/lunettelaw01.KeyOrder", spec := "keyOrder", inPlace := ["internal/bytealg.CountString", "internal/bytealg.IndexByteString", "internal/bytealg.IndexString", "internal/abi.NoEscape", "internal/bytealg.MakeNoZero"], unfollowed := true, recurses := true, named := ["internal/bytealg.MaxLen", "unicode/utf8.first", "unicode/utf8.acceptRanges"], apart := false, laid := [("unicode/utf8.acceptRanges", laid_unicode_utf8_acceptRanges), ("unicode/utf8.first", laid_unicode_utf8_first)], narrowed := true }
def KeyOrderUptoSaid : Prop := keyOrderUptoRow.holds Tryd.pinned (OpenSpec.upto keyOrderSpec)

/-- 'lunettelaw01.KeyTotal', WHERE WHAT IT READS IS OF BULK AT MOST 1048576: true; the input reads as it did. -/
def keyTotalUptoRow : OpenClaim := { program := "ytbecojmhjkhifaadoor", sum := "d5d5b11162d76c18bbef220fcec652f1c6b4134d71cfdd124c0b83fd08d5310e", func := "lunette/lunettelaw01.KeyTotal", spec := "keyTotal", inPlace := ["internal/bytealg.CountString", "internal/bytealg.IndexByteString", "internal/bytealg.IndexString", "internal/abi.NoEscape", "internal/bytealg.MakeNoZero"], unfollowed := true, recurses := true, named := ["internal/bytealg.MaxLen", "unicode/utf8.first", "unicode/utf8.acceptRanges"], apart := false, laid := [("unicode/utf8.acceptRanges", laid_unicode_utf8_acceptRanges), ("unicode/utf8.first", laid_unicode_utf8_first)], narrowed := true }
def KeyTotalUptoSaid : Prop := keyTotalUptoRow.holds Tryd.pinned (OpenSpec.upto keyTotalSpec)

end Rows
end Go.Proofs.YtbecojmhjkhifaaDoor
