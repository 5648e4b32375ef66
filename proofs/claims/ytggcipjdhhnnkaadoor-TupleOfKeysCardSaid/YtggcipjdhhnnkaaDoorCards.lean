/-
  DERIVED. GIVEN WITH THE SEED: THE CARDS: each row of YtggcipjdhhnnkaaDoorRows.lean that lists a variable, with what it lists TIED to the program's text (the seventh form; the later family's looks); each row that meets fmt, with fmt's text TOLD by the authors' own Lean function (tested against real Go, not proved from fmt's source: count such statements apart). THE CARD IS WHAT COUNTS. Prove the row's statement (the work); the ties are given (YtggcipjdhhnnkaaDoorTie.lean); close each card by the builder's one call (the guide's Derived/Test/ToyasCard.lean, 'card_holds'). Laid BY PROGRAM, IN A SANDBOX (cutbox-door.mjs). By AI agents, Wed Nov 11 2026. No macro, syntax, notation, axiom, sorry.
-/
import Derived.Test.YtggcipjdhhnnkaaDoorRows
import GoSem.ClaimSeven
namespace Go.Proofs.YtggcipjdhhnnkaaDoor
namespace Rows

/-- THE TIED CARD OF 'lunettelaw11.TupleOfKeys'. -/
def tupleOfKeysCard : Claim7 := { stood := { row := tupleOfKeysRow, standIns := [], harness := (true, "39d8978d23089a91f752995305e240a5d967aa2c624a5776608dc962fc3bbe76"), looks := false }, kinds := [], alts := [], laidByText := true, laidKinds := [.data, .pinned], laidTests := true, laidLooks := .later }
def TupleOfKeysCardSaid : Prop := Claim7.holds Tryd.pinned (.plain (OpenSpec.ofChange tupleOfKeysSpec)) tupleOfKeysCard

/-- THE TIED CARD OF 'lunettelaw11.TupleApart'. -/
def tupleApartCard : Claim7 := { stood := { row := tupleApartRow, standIns := [], harness := (true, "39d8978d23089a91f752995305e240a5d967aa2c624a5776608dc962fc3bbe76"), looks := false }, kinds := [], alts := [], laidByText := true, laidKinds := [.data, .pinned], laidTests := true, laidLooks := .later }
def TupleApartCardSaid : Prop := Claim7.holds Tryd.pinned (.plain (OpenSpec.ofChange tupleApartSpec)) tupleApartCard

/-- THE TIED CARD OF 'lunettelaw11.TupleKeys'. -/
def tupleKeysCard : Claim7 := { stood := { row := tupleKeysRow, standIns := [], harness := (true, "39d8978d23089a91f752995305e240a5d967aa2c624a5776608dc962fc3bbe76"), looks := false }, kinds := [], alts := [], laidByText := true, laidKinds := [.data, .pinned], laidTests := true, laidLooks := .later }
def TupleKeysCardSaid : Prop := Claim7.holds Tryd.pinned (.plain (OpenSpec.ofChange tupleKeysSpec)) tupleKeysCard

/-- THE TIED CARD OF 'lunettelaw11.TupleBacks'. -/
def tupleBacksCard : Claim7 := { stood := { row := tupleBacksRow, standIns := [], harness := (true, "39d8978d23089a91f752995305e240a5d967aa2c624a5776608dc962fc3bbe76"), looks := false }, kinds := [], alts := [], laidByText := true, laidKinds := [.data, .pinned], laidTests := true, laidLooks := .later }
def TupleBacksCardSaid : Prop := Claim7.holds Tryd.pinned (.plain (OpenSpec.ofChange tupleBacksSpec)) tupleBacksCard

/-- THE TIED CARD OF 'lunettelaw11.TupleParts'. -/
def tuplePartsCard : Claim7 := { stood := { row := tuplePartsRow, standIns := [], harness := (true, "39d8978d23089a91f752995305e240a5d967aa2c624a5776608dc962fc3bbe76"), looks := false }, kinds := [], alts := [], laidByText := true, laidKinds := [.data, .pinned], laidTests := true, laidLooks := .later }
def TuplePartsCardSaid : Prop := Claim7.holds Tryd.pinned (.plain (OpenSpec.ofChange tuplePartsSpec)) tuplePartsCard

/-- THE TIED CARD OF 'lunettelaw11.TupleReads'. -/
def tupleReadsCard : Claim7 := { stood := { row := tupleReadsRow, standIns := [], harness := (true, "39d8978d23089a91f752995305e240a5d967aa2c624a5776608dc962fc3bbe76"), looks := false }, kinds := [], alts := [], laidByText := true, laidKinds := [.data, .pinned], laidTests := true, laidLooks := .later }
def TupleReadsCardSaid : Prop := Claim7.holds Tryd.pinned (.plain (OpenSpec.ofChange tupleReadsSpec)) tupleReadsCard

/-- THE TIED CARD OF 'lunettelaw11.TupleShows'. -/
def tupleShowsCard : Claim7 := { stood := { row := tupleShowsRow, standIns := [], harness := (true, "39d8978d23089a91f752995305e240a5d967aa2c624a5776608dc962fc3bbe76"), looks := false }, kinds := [], alts := [], laidByText := true, laidKinds := [.data, .pinned], laidTests := true, laidLooks := .later }
def TupleShowsCardSaid : Prop := Claim7.holds Tryd.pinned (.plain (OpenSpec.ofChange tupleShowsSpec)) tupleShowsCard

/-- THE TIED CARD OF 'lunettelaw11.TupleOrder'. -/
def tupleOrderCard : Claim7 := { stood := { row := tupleOrderRow, standIns := [], harness := (true, "39d8978d23089a91f752995305e240a5d967aa2c624a5776608dc962fc3bbe76"), looks := false }, kinds := [], alts := [], laidByText := true, laidKinds := [.data, .pinned], laidTests := true, laidLooks := .later }
def TupleOrderCardSaid : Prop := Claim7.holds Tryd.pinned (.plain (OpenSpec.ofChange tupleOrderSpec)) tupleOrderCard

/-- THE SECOND FORM's CARD OF 'lunettelaw11.TupleOfKeys'. -/
def tupleOfKeysUptoCard : Claim7 := { stood := { row := tupleOfKeysUptoRow, standIns := [], harness := (true, "39d8978d23089a91f752995305e240a5d967aa2c624a5776608dc962fc3bbe76"), looks := false }, kinds := [], alts := [], laidByText := true, laidKinds := [.data, .pinned], laidTests := true, laidLooks := .later }
def TupleOfKeysUptoCardSaid : Prop := Claim7.holds Tryd.pinned (.plain (OpenSpec.upto tupleOfKeysSpec)) tupleOfKeysUptoCard

/-- THE SECOND FORM's CARD OF 'lunettelaw11.TupleApart'. -/
def tupleApartUptoCard : Claim7 := { stood := { row := tupleApartUptoRow, standIns := [], harness := (true, "39d8978d23089a91f752995305e240a5d967aa2c624a5776608dc962fc3bbe76"), looks := false }, kinds := [], alts := [], laidByText := true, laidKinds := [.data, .pinned], laidTests := true, laidLooks := .later }
def TupleApartUptoCardSaid : Prop := Claim7.holds Tryd.pinned (.plain (OpenSpec.upto tupleApartSpec)) tupleApartUptoCard

/-- THE SECOND FORM's CARD OF 'lunettelaw11.TupleKeys'. -/
def tupleKeysUptoCard : Claim7 := { stood := { row := tupleKeysUptoRow, standIns := [], harness := (true, "39d8978d23089a91f752995305e240a5d967aa2c624a5776608dc962fc3bbe76"), looks := false }, kinds := [], alts := [], laidByText := true, laidKinds := [.data, .pinned], laidTests := true, laidLooks := .later }
def TupleKeysUptoCardSaid : Prop := Claim7.holds Tryd.pinned (.plain (OpenSpec.upto tupleKeysSpec)) tupleKeysUptoCard

/-- THE SECOND FORM's CARD OF 'lunettelaw11.TupleBacks'. -/
def tupleBacksUptoCard : Claim7 := { stood := { row := tupleBacksUptoRow, standIns := [], harness := (true, "39d8978d23089a91f752995305e240a5d967aa2c624a5776608dc962fc3bbe76"), looks := false }, kinds := [], alts := [], laidByText := true, laidKinds := [.data, .pinned], laidTests := true, laidLooks := .later }
def TupleBacksUptoCardSaid : Prop := Claim7.holds Tryd.pinned (.plain (OpenSpec.upto tupleBacksSpec)) tupleBacksUptoCard

/-- THE SECOND FORM's CARD OF 'lunettelaw11.TupleParts'. -/
def tuplePartsUptoCard : Claim7 := { stood := { row := tuplePartsUptoRow, standIns := [], harness := (true, "39d8978d23089a91f752995305e240a5d967aa2c624a5776608dc962fc3bbe76"), looks := false }, kinds := [], alts := [], laidByText := true, laidKinds := [.data, .pinned], laidTests := true, laidLooks := .later }
def TuplePartsUptoCardSaid : Prop := Claim7.holds Tryd.pinned (.plain (OpenSpec.upto tuplePartsSpec)) tuplePartsUptoCard

/-- THE SECOND FORM's CARD OF 'lunettelaw11.TupleReads'. -/
def tupleReadsUptoCard : Claim7 := { stood := { row := tupleReadsUptoRow, standIns := [], harness := (true, "39d8978d23089a91f752995305e240a5d967aa2c624a5776608dc962fc3bbe76"), looks := false }, kinds := [], alts := [], laidByText := true, laidKinds := [.data, .pinned], laidTests := true, laidLooks := .later }
def TupleReadsUptoCardSaid : Prop := Claim7.holds Tryd.pinned (.plain (OpenSpec.upto tupleReadsSpec)) tupleReadsUptoCard

/-- THE SECOND FORM's CARD OF 'lunettelaw11.TupleShows'. -/
def tupleShowsUptoCard : Claim7 := { stood := { row := tupleShowsUptoRow, standIns := [], harness := (true, "39d8978d23089a91f752995305e240a5d967aa2c624a5776608dc962fc3bbe76"), looks := false }, kinds := [], alts := [], laidByText := true, laidKinds := [.data, .pinned], laidTests := true, laidLooks := .later }
def TupleShowsUptoCardSaid : Prop := Claim7.holds Tryd.pinned (.plain (OpenSpec.upto tupleShowsSpec)) tupleShowsUptoCard

/-- THE SECOND FORM's CARD OF 'lunettelaw11.TupleOrder'. -/
def tupleOrderUptoCard : Claim7 := { stood := { row := tupleOrderUptoRow, standIns := [], harness := (true, "39d8978d23089a91f752995305e240a5d967aa2c624a5776608dc962fc3bbe76"), looks := false }, kinds := [], alts := [], laidByText := true, laidKinds := [.data, .pinned], laidTests := true, laidLooks := .later }
def TupleOrderUptoCardSaid : Prop := Claim7.holds Tryd.pinned (.plain (OpenSpec.upto tupleOrderSpec)) tupleOrderUptoCard
end Rows
end Go.Proofs.YtggcipjdhhnnkaaDoor
