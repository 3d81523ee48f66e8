/-
  DERIVED. GIVEN WITH THE SEED: THE CARDS: each row of YtgklpnendmhbjaaGreatDoorRows.lean that lists a variable, with what it lists TIED to the program's text (the seventh form; the later family's looks); each row that meets fmt, with fmt's text TOLD by the authors' own Lean function (tested against real Go, not proved from fmt's source: count such statements apart). THE CARD IS WHAT COUNTS. Prove the row's statement (the work); the ties are given (YtgklpnendmhbjaaGreatDoorTie.lean); close each card by the builder's one call (the guide's Derived/Test/ToyasCard.lean, 'card_holds'). Laid BY PROGRAM, IN A SANDBOX (cutbox-door.mjs). By AI agents, Wed Nov 11 2026. No macro, syntax, notation, axiom, sorry.
-/
import Derived.Test.YtgklpnendmhbjaaGreatDoorRows
import GoSem.ClaimSeven
namespace Go.Proofs.YtgklpnendmhbjaaGreatDoor
namespace Rows

/-- THE TIED CARD OF 'latinerlaw12.RepApart'. -/
def repApartCard : Claim7 := { stood := { row := repApartRow, standIns := [], harness := (true, "8122cce30c1196357c0d02b2f0a8cc7d44be643d020d98ed1efdbfd5ee203419"), looks := true }, kinds := [], alts := [], laidByText := true, laidKinds := [.data, .handle, .sentinel, .sentinel, .sentinel, .sentinel, .sentinel, .sentinel, .sentinel, .sentinel, .sentinel, .sentinel, .sentinel, .sentinel, .sentinel, .sentinel, .pinned], laidTests := true, laidLooks := .later }
def RepApartCardSaid : Prop := Claim7.holds Tryz.pinned (.plain (OpenSpec.ofChange repApartSpec)) repApartCard

/-- THE TIED CARD OF 'latinerlaw12.RepCodes'. -/
def repCodesCard : Claim7 := { stood := { row := repCodesRow, standIns := [], harness := (true, "8122cce30c1196357c0d02b2f0a8cc7d44be643d020d98ed1efdbfd5ee203419"), looks := true }, kinds := [], alts := [], laidByText := true, laidKinds := [.data, .handle, .sentinel, .sentinel, .sentinel, .sentinel, .sentinel, .sentinel, .sentinel, .sentinel, .sentinel, .sentinel, .sentinel, .sentinel, .sentinel, .sentinel, .pinned], laidTests := true, laidLooks := .later }
def RepCodesCardSaid : Prop := Claim7.holds Tryz.pinned (.plain (OpenSpec.ofChange repCodesSpec)) repCodesCard

/-- THE TIED CARD OF 'latinerlaw12.RepTrees'. -/
def repTreesCard : Claim7 := { stood := { row := repTreesRow, standIns := [], harness := (true, "8122cce30c1196357c0d02b2f0a8cc7d44be643d020d98ed1efdbfd5ee203419"), looks := true }, kinds := [], alts := [], laidByText := true, laidKinds := [.data, .handle, .sentinel, .sentinel, .sentinel, .sentinel, .sentinel, .sentinel, .sentinel, .sentinel, .sentinel, .sentinel, .sentinel, .sentinel, .sentinel, .sentinel, .pinned], laidTests := true, laidLooks := .later }
def RepTreesCardSaid : Prop := Claim7.holds Tryz.pinned (.plain (OpenSpec.ofChange repTreesSpec)) repTreesCard

/-- THE TIED CARD OF 'latinerlaw12.RepBack'. -/
def repBackCard : Claim7 := { stood := { row := repBackRow, standIns := [], harness := (true, "8122cce30c1196357c0d02b2f0a8cc7d44be643d020d98ed1efdbfd5ee203419"), looks := true }, kinds := [], alts := [], laidByText := true, laidKinds := [.data, .handle, .sentinel, .sentinel, .sentinel, .sentinel, .sentinel, .sentinel, .sentinel, .sentinel, .sentinel, .sentinel, .sentinel, .sentinel, .sentinel, .sentinel, .pinned], laidTests := true, laidLooks := .later }
def RepBackCardSaid : Prop := Claim7.holds Tryz.pinned (.plain (OpenSpec.ofChange repBackSpec)) repBackCard

/-- THE TIED CARD OF 'latinerlaw12.RepAnswers'. -/
def repAnswersCard : Claim7 := { stood := { row := repAnswersRow, standIns := [], harness := (true, "8122cce30c1196357c0d02b2f0a8cc7d44be643d020d98ed1efdbfd5ee203419"), looks := true }, kinds := [], alts := [], laidByText := true, laidKinds := [.data, .handle, .sentinel, .sentinel, .sentinel, .sentinel, .sentinel, .sentinel, .sentinel, .sentinel, .sentinel, .sentinel, .sentinel, .sentinel, .sentinel, .sentinel, .pinned], laidTests := true, laidLooks := .later }
def RepAnswersCardSaid : Prop := Claim7.holds Tryz.pinned (.plain (OpenSpec.ofChange repAnswersSpec)) repAnswersCard

/-- THE TIED CARD OF 'latinerlaw12.RepReads'. -/
def repReadsCard : Claim7 := { stood := { row := repReadsRow, standIns := [], harness := (true, "8122cce30c1196357c0d02b2f0a8cc7d44be643d020d98ed1efdbfd5ee203419"), looks := true }, kinds := [], alts := [], laidByText := true, laidKinds := [.data, .handle, .sentinel, .sentinel, .sentinel, .sentinel, .sentinel, .sentinel, .sentinel, .sentinel, .sentinel, .sentinel, .sentinel, .sentinel, .sentinel, .sentinel, .sentinel, .sentinel, .pinned], laidTests := true, laidLooks := .later }
def RepReadsCardSaid : Prop := Claim7.holds Tryz.pinned (.plain (OpenSpec.ofChange repReadsSpec)) repReadsCard

/-- THE SECOND FORM's CARD OF 'latinerlaw12.RepApart'. -/
def repApartUptoCard : Claim7 := { stood := { row := repApartUptoRow, standIns := [], harness := (true, "8122cce30c1196357c0d02b2f0a8cc7d44be643d020d98ed1efdbfd5ee203419"), looks := true }, kinds := [], alts := [], laidByText := true, laidKinds := [.data, .handle, .sentinel, .sentinel, .sentinel, .sentinel, .sentinel, .sentinel, .sentinel, .sentinel, .sentinel, .sentinel, .sentinel, .sentinel, .sentinel, .sentinel, .pinned], laidTests := true, laidLooks := .later }
def RepApartUptoCardSaid : Prop := Claim7.holds Tryz.pinned (.plain (OpenSpec.upto repApartSpec)) repApartUptoCard

/-- THE SECOND FORM's CARD OF 'latinerlaw12.RepCodes'. -/
def repCodesUptoCard : Claim7 := { stood := { row := repCodesUptoRow, standIns := [], harness := (true, "8122cce30c1196357c0d02b2f0a8cc7d44be643d020d98ed1efdbfd5ee203419"), looks := true }, kinds := [], alts := [], laidByText := true, laidKinds := [.data, .handle, .sentinel, .sentinel, .sentinel, .sentinel, .sentinel, .sentinel, .sentinel, .sentinel, .sentinel, .sentinel, .sentinel, .sentinel, .sentinel, .sentinel, .pinned], laidTests := true, laidLooks := .later }
def RepCodesUptoCardSaid : Prop := Claim7.holds Tryz.pinned (.plain (OpenSpec.upto repCodesSpec)) repCodesUptoCard

/-- THE SECOND FORM's CARD OF 'latinerlaw12.RepTrees'. -/
def repTreesUptoCard : Claim7 := { stood := { row := repTreesUptoRow, standIns := [], harness := (true, "8122cce30c1196357c0d02b2f0a8cc7d44be643d020d98ed1efdbfd5ee203419"), looks := true }, kinds := [], alts := [], laidByText := true, laidKinds := [.data, .handle, .sentinel, .sentinel, .sentinel, .sentinel, .sentinel, .sentinel, .sentinel, .sentinel, .sentinel, .sentinel, .sentinel, .sentinel, .sentinel, .sentinel, .pinned], laidTests := true, laidLooks := .later }
def RepTreesUptoCardSaid : Prop := Claim7.holds Tryz.pinned (.plain (OpenSpec.upto repTreesSpec)) repTreesUptoCard

/-- THE SECOND FORM's CARD OF 'latinerlaw12.RepBack'. -/
def repBackUptoCard : Claim7 := { stood := { row := repBackUptoRow, standIns := [], harness := (true, "8122cce30c1196357c0d02b2f0a8cc7d44be643d020d98ed1efdbfd5ee203419"), looks := true }, kinds := [], alts := [], laidByText := true, laidKinds := [.data, .handle, .sentinel, .sentinel, .sentinel, .sentinel, .sentinel, .sentinel, .sentinel, .sentinel, .sentinel, .sentinel, .sentinel, .sentinel, .sentinel, .sentinel, .pinned], laidTests := true, laidLooks := .later }
def RepBackUptoCardSaid : Prop := Claim7.holds Tryz.pinned (.plain (OpenSpec.upto repBackSpec)) repBackUptoCard

/-- THE SECOND FORM's CARD OF 'latinerlaw12.RepAnswers'. -/
def repAnswersUptoCard : Claim7 := { stood := { row := repAnswersUptoRow, standIns := [], harness := (true, "8122cce30c1196357c0d02b2f0a8cc7d44be643d020d98ed1efdbfd5ee203419"), looks := true }, kinds := [], alts := [], laidByText := true, laidKinds := [.data, .handle, .sentinel, .sentinel, .sentinel, .sentinel, .sentinel, .sentinel, .sentinel, .sentinel, .sentinel, .sentinel, .sentinel, .sentinel, .sentinel, .sentinel, .pinned], laidTests := true, laidLooks := .later }
def RepAnswersUptoCardSaid : Prop := Claim7.holds Tryz.pinned (.plain (OpenSpec.upto repAnswersSpec)) repAnswersUptoCard

/-- THE SECOND FORM's CARD OF 'latinerlaw12.RepReads'. -/
def repReadsUptoCard : Claim7 := { stood := { row := repReadsUptoRow, standIns := [], harness := (true, "8122cce30c1196357c0d02b2f0a8cc7d44be643d020d98ed1efdbfd5ee203419"), looks := true }, kinds := [], alts := [], laidByText := true, laidKinds := [.data, .handle, .sentinel, .sentinel, .sentinel, .sentinel, .sentinel, .sentinel, .sentinel, .sentinel, .sentinel, .sentinel, .sentinel, .sentinel, .sentinel, .sentinel, .sentinel, .sentinel, .pinned], laidTests := true, laidLooks := .later }
def RepReadsUptoCardSaid : Prop := Claim7.holds Tryz.pinned (.plain (OpenSpec.upto repReadsSpec)) repReadsUptoCard
end Rows
end Go.Proofs.YtgklpnendmhbjaaGreatDoor
