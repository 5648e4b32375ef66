/-
  DERIVED. GIVEN WITH THE SEED: THE CARDS: each row of YtbecojmhjkhifaaDoorRows.lean that lists a variable, with what it lists TIED to the program's text (the seventh form; the later family's looks); each row that meets fmt, with fmt's text TOLD by the authors' own Lean function (tested against real Go, not proved from fmt's source: count such statements apart). THE CARD IS WHAT COUNTS. Prove the row's statement (the work); the ties are given (YtbecojmhjkhifaaDoorTie.lean); close each card by the builder's one call (the guide's Derived/Test/ToyasCard.lean, 'card_holds'). Laid BY PROGRAM, IN A SANDBOX (cutbox-door.mjs). By AI agents, Wed Nov 11 2026. No macro, syntax, notation, axiom, sorry.
-/
import Derived.Test.YtbecojmhjkhifaaDoorRows
import GoSem.ClaimSeven
namespace Go.Proofs.YtbecojmhjkhifaaDoor
namespace Rows

/-- THE TIED CARD OF 'lunettelaw01.KeyPuts'. -/
def keyPutsCard : Claim7 := { stood := { row := keyPutsRow, standIns := [], harness := (true, "eca73d173325b7d868a4c9f2975e03466b843c44a01bcb44ec5ada1c31913120"), looks := false }, kinds := [], alts := [], laidByText := true, laidKinds := [.data, .pinned], laidTests := true, laidLooks := .later }
def KeyPutsCardSaid : Prop := Claim7.holds Tryd.pinned (.plain (OpenSpec.ofChange keyPutsSpec)) keyPutsCard

/-- THE TIED CARD OF 'lunettelaw01.KeyGets'. -/
def keyGetsCard : Claim7 := { stood := { row := keyGetsRow, standIns := [], harness := (true, "eca73d173325b7d868a4c9f2975e03466b843c44a01bcb44ec5ada1c31913120"), looks := false }, kinds := [], alts := [], laidByText := true, laidKinds := [.data, .pinned], laidTests := true, laidLooks := .later }
def KeyGetsCardSaid : Prop := Claim7.holds Tryd.pinned (.plain (OpenSpec.ofChange keyGetsSpec)) keyGetsCard

/-- THE TIED CARD OF 'lunettelaw01.KeyBegins'. -/
def keyBeginsCard : Claim7 := { stood := { row := keyBeginsRow, standIns := [], harness := (true, "eca73d173325b7d868a4c9f2975e03466b843c44a01bcb44ec5ada1c31913120"), looks := false }, kinds := [], alts := [], laidByText := true, laidKinds := [.data, .pinned], laidTests := true, laidLooks := .later }
def KeyBeginsCardSaid : Prop := Claim7.holds Tryd.pinned (.plain (OpenSpec.ofChange keyBeginsSpec)) keyBeginsCard

/-- THE TIED CARD OF 'lunettelaw01.KeyAfter'. -/
def keyAfterCard : Claim7 := { stood := { row := keyAfterRow, standIns := [], harness := (true, "eca73d173325b7d868a4c9f2975e03466b843c44a01bcb44ec5ada1c31913120"), looks := false }, kinds := [], alts := [], laidByText := true, laidKinds := [.data, .pinned], laidTests := true, laidLooks := .later }
def KeyAfterCardSaid : Prop := Claim7.holds Tryd.pinned (.plain (OpenSpec.ofChange keyAfterSpec)) keyAfterCard

/-- THE TIED CARD OF 'lunettelaw01.KeyNums'. -/
def keyNumsCard : Claim7 := { stood := { row := keyNumsRow, standIns := [], harness := (true, "eca73d173325b7d868a4c9f2975e03466b843c44a01bcb44ec5ada1c31913120"), looks := false }, kinds := [], alts := [], laidByText := true, laidKinds := [.data, .pinned], laidTests := true, laidLooks := .later }
def KeyNumsCardSaid : Prop := Claim7.holds Tryd.pinned (.plain (OpenSpec.ofChange keyNumsSpec)) keyNumsCard

/-- THE TIED CARD OF 'lunettelaw01.KeyMiddle'. -/
def keyMiddleCard : Claim7 := { stood := { row := keyMiddleRow, standIns := [], harness := (true, "eca73d173325b7d868a4c9f2975e03466b843c44a01bcb44ec5ada1c31913120"), looks := false }, kinds := [], alts := [], laidByText := true, laidKinds := [.data, .pinned], laidTests := true, laidLooks := .later }
def KeyMiddleCardSaid : Prop := Claim7.holds Tryd.pinned (.plain (OpenSpec.ofChange keyMiddleSpec)) keyMiddleCard

/-- THE TIED CARD OF 'lunettelaw01.KeyApart'. -/
def keyApartCard : Claim7 := { stood := { row := keyApartRow, standIns := [], harness := (true, "eca73d173325b7d868a4c9f2975e03466b843c44a01bcb44ec5ada1c31913120"), looks := false }, kinds := [], alts := [], laidByText := true, laidKinds := [.data, .pinned], laidTests := true, laidLooks := .later }
def KeyApartCardSaid : Prop := Claim7.holds Tryd.pinned (.plain (OpenSpec.ofChange keyApartSpec)) keyApartCard

/-- THE TIED CARD OF 'lunettelaw01.KeyConcat'. -/
def keyConcatCard : Claim7 := { stood := { row := keyConcatRow, standIns := [], harness := (true, "eca73d173325b7d868a4c9f2975e03466b843c44a01bcb44ec5ada1c31913120"), looks := false }, kinds := [], alts := [], laidByText := true, laidKinds := [.data, .pinned], laidTests := true, laidLooks := .later }
def KeyConcatCardSaid : Prop := Claim7.holds Tryd.pinned (.plain (OpenSpec.ofChange keyConcatSpec)) keyConcatCard

/-- THE TIED CARD OF 'lunettelaw01.KeyOrder'. -/
def keyOrderCard : Claim7 := { stood := { row := keyOrderRow, standIns := [], harness := (true, "eca73d173325b7d868a4c9f2975e03466b843c44a01bcb44ec5ada1c31913120"), looks := false }, kinds := [], alts := [], laidByText := true, laidKinds := [.data, .pinned], laidTests := true, laidLooks := .later }
def KeyOrderCardSaid : Prop := Claim7.holds Tryd.pinned (.plain (OpenSpec.ofChange keyOrderSpec)) keyOrderCard

/-- THE TIED CARD OF 'lunettelaw01.KeyTotal'. -/
def keyTotalCard : Claim7 := { stood := { row := keyTotalRow, standIns := [], harness := (true, "eca73d173325b7d868a4c9f2975e03466b843c44a01bcb44ec5ada1c31913120"), looks := false }, kinds := [], alts := [], laidByText := true, laidKinds := [.data, .pinned], laidTests := true, laidLooks := .later }
def KeyTotalCardSaid : Prop := Claim7.holds Tryd.pinned (.plain (OpenSpec.ofChange keyTotalSpec)) keyTotalCard

/-- THE SECOND FORM's CARD OF 'lunettelaw01.KeyPuts'. -/
def keyPutsUptoCard : Claim7 := { stood := { row := keyPutsUptoRow, standIns := [], harness := (true, "eca73d173325b7d868a4c9f2975e03466b843c44a01bcb44ec5ada1c31913120"), looks := false }, kinds := [], alts := [], laidByText := true, laidKinds := [.data, .pinned], laidTests := true, laidLooks := .later }
def KeyPutsUptoCardSaid : Prop := Claim7.holds Tryd.pinned (.plain (OpenSpec.upto keyPutsSpec)) keyPutsUptoCard

/-- THE SECOND FORM's CARD OF 'lunettelaw01.KeyGets'. -/
def keyGetsUptoCard : Claim7 := { stood := { row := keyGetsUptoRow, standIns := [], harness := (true, "eca73d173325b7d868a4c9f2975e03466b843c44a01bcb44ec5ada1c31913120"), looks := false }, kinds := [], alts := [], laidByText := true, laidKinds := [.data, .pinned], laidTests := true, laidLooks := .later }
def KeyGetsUptoCardSaid : Prop := Claim7.holds Tryd.pinned (.plain (OpenSpec.upto keyGetsSpec)) keyGetsUptoCard

/-- THE SECOND FORM's CARD OF 'lunettelaw01.KeyBegins'. -/
def keyBeginsUptoCard : Claim7 := { stood := { row := keyBeginsUptoRow, standIns := [], harness := (true, "eca73d173325b7d868a4c9f2975e03466b843c44a01bcb44ec5ada1c31913120"), looks := false }, kinds := [], alts := [], laidByText := true, laidKinds := [.data, .pinned], laidTests := true, laidLooks := .later }
def KeyBeginsUptoCardSaid : Prop := Claim7.holds Tryd.pinned (.plain (OpenSpec.upto keyBeginsSpec)) keyBeginsUptoCard

/-- THE SECOND FORM's CARD OF 'lunettelaw01.KeyAfter'. -/
def keyAfterUptoCard : Claim7 := { stood := { row := keyAfterUptoRow, standIns := [], harness := (true, "eca73d173325b7d868a4c9f2975e03466b843c44a01bcb44ec5ada1c31913120"), looks := false }, kinds := [], alts := [], laidByText := true, laidKinds := [.data, .pinned], laidTests := true, laidLooks := .later }
def KeyAfterUptoCardSaid : Prop := Claim7.holds Tryd.pinned (.plain (OpenSpec.upto keyAfterSpec)) keyAfterUptoCard

/-- THE SECOND FORM's CARD OF 'lunettelaw01.KeyNums'. -/
def keyNumsUptoCard : Claim7 := { stood := { row := keyNumsUptoRow, standIns := [], harness := (true, "eca73d173325b7d868a4c9f2975e03466b843c44a01bcb44ec5ada1c31913120"), looks := false }, kinds := [], alts := [], laidByText := true, laidKinds := [.data, .pinned], laidTests := true, laidLooks := .later }
def KeyNumsUptoCardSaid : Prop := Claim7.holds Tryd.pinned (.plain (OpenSpec.upto keyNumsSpec)) keyNumsUptoCard

/-- THE SECOND FORM's CARD OF 'lunettelaw01.KeyMiddle'. -/
def keyMiddleUptoCard : Claim7 := { stood := { row := keyMiddleUptoRow, standIns := [], harness := (true, "eca73d173325b7d868a4c9f2975e03466b843c44a01bcb44ec5ada1c31913120"), looks := false }, kinds := [], alts := [], laidByText := true, laidKinds := [.data, .pinned], laidTests := true, laidLooks := .later }
def KeyMiddleUptoCardSaid : Prop := Claim7.holds Tryd.pinned (.plain (OpenSpec.upto keyMiddleSpec)) keyMiddleUptoCard

/-- THE SECOND FORM's CARD OF 'lunettelaw01.KeyApart'. -/
def keyApartUptoCard : Claim7 := { stood := { row := keyApartUptoRow, standIns := [], harness := (true, "eca73d173325b7d868a4c9f2975e03466b843c44a01bcb44ec5ada1c31913120"), looks := false }, kinds := [], alts := [], laidByText := true, laidKinds := [.data, .pinned], laidTests := true, laidLooks := .later }
def KeyApartUptoCardSaid : Prop := Claim7.holds Tryd.pinned (.plain (OpenSpec.upto keyApartSpec)) keyApartUptoCard

/-- THE SECOND FORM's CARD OF 'lunettelaw01.KeyConcat'. -/
def keyConcatUptoCard : Claim7 := { stood := { row := keyConcatUptoRow, standIns := [], harness := (true, "eca73d173325b7d868a4c9f2975e03466b843c44a01bcb44ec5ada1c31913120"), looks := false }, kinds := [], alts := [], laidByText := true, laidKinds := [.data, .pinned], laidTests := true, laidLooks := .later }
def KeyConcatUptoCardSaid : Prop := Claim7.holds Tryd.pinned (.plain (OpenSpec.upto keyConcatSpec)) keyConcatUptoCard

/-- THE SECOND FORM's CARD OF 'lunettelaw01.KeyOrder'. -/
def keyOrderUptoCard : Claim7 := { stood := { row := keyOrderUptoRow, standIns := [], harness := (true, "eca73d173325b7d868a4c9f2975e03466b843c44a01bcb44ec5ada1c31913120"), looks := false }, kinds := [], alts := [], laidByText := true, laidKinds := [.data, .pinned], laidTests := true, laidLooks := .later }
def KeyOrderUptoCardSaid : Prop := Claim7.holds Tryd.pinned (.plain (OpenSpec.upto keyOrderSpec)) keyOrderUptoCard

/-- THE SECOND FORM's CARD OF 'lunettelaw01.KeyTotal'. -/
def keyTotalUptoCard : Claim7 := { stood := { row := keyTotalUptoRow, standIns := [], harness := (true, "eca73d173325b7d868a4c9f2975e03466b843c44a01bcb44ec5ada1c31913120"), looks := false }, kinds := [], alts := [], laidByText := true, laidKinds := [.data, .pinned], laidTests := true, laidLooks := .later }
def KeyTotalUptoCardSaid : Prop := Claim7.holds Tryd.pinned (.plain (OpenSpec.upto keyTotalSpec)) keyTotalUptoCard
end Rows
end Go.Proofs.YtbecojmhjkhifaaDoor
