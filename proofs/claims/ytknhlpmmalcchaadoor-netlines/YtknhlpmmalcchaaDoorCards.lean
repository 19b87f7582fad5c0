/-
  DERIVED. GIVEN WITH THE SEED: THE CARDS: each row of YtknhlpmmalcchaaDoorRows.lean that lists a variable, with what it lists TIED to the program's text (the seventh form; the later family's looks); each row that meets fmt, with fmt's text TOLD by the authors' own Lean function (tested against real Go, not proved from fmt's source: count such statements apart). THE CARD IS WHAT COUNTS. Prove the row's statement (the work); the ties are given (YtknhlpmmalcchaaDoorTie.lean); close each card by the builder's one call (the guide's Derived/Test/ToyasCard.lean, 'card_holds'). Laid BY PROGRAM, IN A SANDBOX (cutbox-door.mjs). By AI agents, Wed Nov 11 2026. No macro, syntax, notation, axiom, sorry.
-/
import Derived.Test.YtknhlpmmalcchaaDoorRows
import GoSem.ClaimSeven
namespace Go.Proofs.YtknhlpmmalcchaaDoor
namespace Rows

/-- THE TIED CARD OF 'milestonelaw1.NetChecks'. -/
def netChecksCard : Claim7 := { stood := { row := netChecksRow, standIns := [], harness := (true, "d8446e9103902f8744a678d5718c5e5b3ede9007c981abf4d4619d2a9af5f638"), looks := true }, kinds := [], alts := [], laidByText := true, laidKinds := [.data, .data, .data, .data, .sentinel, .sentinel, .pinned], laidTests := true, laidLooks := .later }
def NetChecksCardSaid : Prop := Claim7.holds Tryd.pinned (.plain (OpenSpec.ofChange netChecksSpec)) netChecksCard

/-- THE TIED CARD OF 'milestonelaw1.NetReads'. -/
def netReadsCard : Claim7 := { stood := { row := netReadsRow, standIns := [], harness := (true, "d8446e9103902f8744a678d5718c5e5b3ede9007c981abf4d4619d2a9af5f638"), looks := true }, kinds := [], alts := [], laidByText := true, laidKinds := [.data, .data, .data, .data, .sentinel, .sentinel, .pinned], laidTests := true, laidLooks := .later }
def NetReadsCardSaid : Prop := Claim7.holds Tryd.pinned (.plain (OpenSpec.ofChange netReadsSpec)) netReadsCard

/-- THE TIED CARD OF 'milestonelaw1.NetKnown'. -/
def netKnownCard : Claim7 := { stood := { row := netKnownRow, standIns := [], harness := (true, "d8446e9103902f8744a678d5718c5e5b3ede9007c981abf4d4619d2a9af5f638"), looks := true }, kinds := [], alts := [], laidByText := true, laidKinds := [.data, .data, .data, .data, .sentinel, .sentinel, .pinned], laidTests := true, laidLooks := .later }
def NetKnownCardSaid : Prop := Claim7.holds Tryd.pinned (.plain (OpenSpec.ofChange netKnownSpec)) netKnownCard

/-- THE TIED CARD OF 'milestonelaw1.NetLimits'. -/
def netLimitsCard : Claim7 := { stood := { row := netLimitsRow, standIns := [], harness := (true, "d8446e9103902f8744a678d5718c5e5b3ede9007c981abf4d4619d2a9af5f638"), looks := true }, kinds := [], alts := [], laidByText := true, laidKinds := [.data, .data, .data, .data, .sentinel, .sentinel, .pinned], laidTests := true, laidLooks := .later }
def NetLimitsCardSaid : Prop := Claim7.holds Tryd.pinned (.plain (OpenSpec.ofChange netLimitsSpec)) netLimitsCard

/-- THE TIED CARD OF 'milestonelaw1.NetWalks'. -/
def netWalksCard : Claim7 := { stood := { row := netWalksRow, standIns := [], harness := (true, "d8446e9103902f8744a678d5718c5e5b3ede9007c981abf4d4619d2a9af5f638"), looks := true }, kinds := [], alts := [], laidByText := true, laidKinds := [.data, .data, .data, .data, .sentinel, .sentinel, .pinned], laidTests := true, laidLooks := .later }
def NetWalksCardSaid : Prop := Claim7.holds Tryd.pinned (.plain (OpenSpec.ofChange netWalksSpec)) netWalksCard

/-- THE TIED CARD OF 'milestonelaw1.NetJoins'. -/
def netJoinsCard : Claim7 := { stood := { row := netJoinsRow, standIns := [], harness := (true, "d8446e9103902f8744a678d5718c5e5b3ede9007c981abf4d4619d2a9af5f638"), looks := true }, kinds := [], alts := [], laidByText := true, laidKinds := [.data, .data, .data, .data, .sentinel, .sentinel, .pinned], laidTests := true, laidLooks := .later }
def NetJoinsCardSaid : Prop := Claim7.holds Tryd.pinned (.plain (OpenSpec.ofChange netJoinsSpec)) netJoinsCard

/-- THE TIED CARD OF 'milestonelaw1.NetCosts'. -/
def netCostsCard : Claim7 := { stood := { row := netCostsRow, standIns := [], harness := (true, "d8446e9103902f8744a678d5718c5e5b3ede9007c981abf4d4619d2a9af5f638"), looks := true }, kinds := [], alts := [], laidByText := true, laidKinds := [.data, .data, .data, .data, .sentinel, .sentinel, .pinned], laidTests := true, laidLooks := .later }
def NetCostsCardSaid : Prop := Claim7.holds Tryd.pinned (.plain (OpenSpec.ofChange netCostsSpec)) netCostsCard

/-- THE TIED CARD OF 'milestonelaw1.NetBack'. -/
def netBackCard : Claim7 := { stood := { row := netBackRow, standIns := [], harness := (true, "d8446e9103902f8744a678d5718c5e5b3ede9007c981abf4d4619d2a9af5f638"), looks := true }, kinds := [], alts := [], laidByText := true, laidKinds := [.data, .data, .data, .data, .sentinel, .sentinel, .pinned], laidTests := true, laidLooks := .later }
def NetBackCardSaid : Prop := Claim7.holds Tryd.pinned (.plain (OpenSpec.ofChange netBackSpec)) netBackCard

/-- THE TIED CARD OF 'milestonelaw1.NetLines'. -/
def netLinesCard : Claim7 := { stood := { row := netLinesRow, standIns := [], harness := (true, "d8446e9103902f8744a678d5718c5e5b3ede9007c981abf4d4619d2a9af5f638"), looks := true }, kinds := [], alts := [], laidByText := true, laidKinds := [.data, .data, .data, .data, .sentinel, .sentinel, .pinned], laidTests := true, laidLooks := .later }
def NetLinesCardSaid : Prop := Claim7.holds Tryd.pinned (.plain (OpenSpec.ofChange netLinesSpec)) netLinesCard

/-- THE TIED CARD OF 'milestonelaw1.NetApart'. -/
def netApartCard : Claim7 := { stood := { row := netApartRow, standIns := [], harness := (true, "d8446e9103902f8744a678d5718c5e5b3ede9007c981abf4d4619d2a9af5f638"), looks := true }, kinds := [], alts := [], laidByText := true, laidKinds := [.data, .data, .data, .data, .sentinel, .sentinel, .pinned], laidTests := true, laidLooks := .later }
def NetApartCardSaid : Prop := Claim7.holds Tryd.pinned (.plain (OpenSpec.ofChange netApartSpec)) netApartCard

/-- THE SECOND FORM's CARD OF 'milestonelaw1.NetChecks'. -/
def netChecksUptoCard : Claim7 := { stood := { row := netChecksUptoRow, standIns := [], harness := (true, "d8446e9103902f8744a678d5718c5e5b3ede9007c981abf4d4619d2a9af5f638"), looks := true }, kinds := [], alts := [], laidByText := true, laidKinds := [.data, .data, .data, .data, .sentinel, .sentinel, .pinned], laidTests := true, laidLooks := .later }
def NetChecksUptoCardSaid : Prop := Claim7.holds Tryd.pinned (.plain (OpenSpec.upto netChecksSpec)) netChecksUptoCard

/-- THE SECOND FORM's CARD OF 'milestonelaw1.NetReads'. -/
def netReadsUptoCard : Claim7 := { stood := { row := netReadsUptoRow, standIns := [], harness := (true, "d8446e9103902f8744a678d5718c5e5b3ede9007c981abf4d4619d2a9af5f638"), looks := true }, kinds := [], alts := [], laidByText := true, laidKinds := [.data, .data, .data, .data, .sentinel, .sentinel, .pinned], laidTests := true, laidLooks := .later }
def NetReadsUptoCardSaid : Prop := Claim7.holds Tryd.pinned (.plain (OpenSpec.upto netReadsSpec)) netReadsUptoCard

/-- THE SECOND FORM's CARD OF 'milestonelaw1.NetKnown'. -/
def netKnownUptoCard : Claim7 := { stood := { row := netKnownUptoRow, standIns := [], harness := (true, "d8446e9103902f8744a678d5718c5e5b3ede9007c981abf4d4619d2a9af5f638"), looks := true }, kinds := [], alts := [], laidByText := true, laidKinds := [.data, .data, .data, .data, .sentinel, .sentinel, .pinned], laidTests := true, laidLooks := .later }
def NetKnownUptoCardSaid : Prop := Claim7.holds Tryd.pinned (.plain (OpenSpec.upto netKnownSpec)) netKnownUptoCard

/-- THE SECOND FORM's CARD OF 'milestonelaw1.NetLimits'. -/
def netLimitsUptoCard : Claim7 := { stood := { row := netLimitsUptoRow, standIns := [], harness := (true, "d8446e9103902f8744a678d5718c5e5b3ede9007c981abf4d4619d2a9af5f638"), looks := true }, kinds := [], alts := [], laidByText := true, laidKinds := [.data, .data, .data, .data, .sentinel, .sentinel, .pinned], laidTests := true, laidLooks := .later }
def NetLimitsUptoCardSaid : Prop := Claim7.holds Tryd.pinned (.plain (OpenSpec.upto netLimitsSpec)) netLimitsUptoCard

/-- THE SECOND FORM's CARD OF 'milestonelaw1.NetWalks'. -/
def netWalksUptoCard : Claim7 := { stood := { row := netWalksUptoRow, standIns := [], harness := (true, "d8446e9103902f8744a678d5718c5e5b3ede9007c981abf4d4619d2a9af5f638"), looks := true }, kinds := [], alts := [], laidByText := true, laidKinds := [.data, .data, .data, .data, .sentinel, .sentinel, .pinned], laidTests := true, laidLooks := .later }
def NetWalksUptoCardSaid : Prop := Claim7.holds Tryd.pinned (.plain (OpenSpec.upto netWalksSpec)) netWalksUptoCard

/-- THE SECOND FORM's CARD OF 'milestonelaw1.NetJoins'. -/
def netJoinsUptoCard : Claim7 := { stood := { row := netJoinsUptoRow, standIns := [], harness := (true, "d8446e9103902f8744a678d5718c5e5b3ede9007c981abf4d4619d2a9af5f638"), looks := true }, kinds := [], alts := [], laidByText := true, laidKinds := [.data, .data, .data, .data, .sentinel, .sentinel, .pinned], laidTests := true, laidLooks := .later }
def NetJoinsUptoCardSaid : Prop := Claim7.holds Tryd.pinned (.plain (OpenSpec.upto netJoinsSpec)) netJoinsUptoCard

/-- THE SECOND FORM's CARD OF 'milestonelaw1.NetCosts'. -/
def netCostsUptoCard : Claim7 := { stood := { row := netCostsUptoRow, standIns := [], harness := (true, "d8446e9103902f8744a678d5718c5e5b3ede9007c981abf4d4619d2a9af5f638"), looks := true }, kinds := [], alts := [], laidByText := true, laidKinds := [.data, .data, .data, .data, .sentinel, .sentinel, .pinned], laidTests := true, laidLooks := .later }
def NetCostsUptoCardSaid : Prop := Claim7.holds Tryd.pinned (.plain (OpenSpec.upto netCostsSpec)) netCostsUptoCard

/-- THE SECOND FORM's CARD OF 'milestonelaw1.NetBack'. -/
def netBackUptoCard : Claim7 := { stood := { row := netBackUptoRow, standIns := [], harness := (true, "d8446e9103902f8744a678d5718c5e5b3ede9007c981abf4d4619d2a9af5f638"), looks := true }, kinds := [], alts := [], laidByText := true, laidKinds := [.data, .data, .data, .data, .sentinel, .sentinel, .pinned], laidTests := true, laidLooks := .later }
def NetBackUptoCardSaid : Prop := Claim7.holds Tryd.pinned (.plain (OpenSpec.upto netBackSpec)) netBackUptoCard

/-- THE SECOND FORM's CARD OF 'milestonelaw1.NetLines'. -/
def netLinesUptoCard : Claim7 := { stood := { row := netLinesUptoRow, standIns := [], harness := (true, "d8446e9103902f8744a678d5718c5e5b3ede9007c981abf4d4619d2a9af5f638"), looks := true }, kinds := [], alts := [], laidByText := true, laidKinds := [.data, .data, .data, .data, .sentinel, .sentinel, .pinned], laidTests := true, laidLooks := .later }
def NetLinesUptoCardSaid : Prop := Claim7.holds Tryd.pinned (.plain (OpenSpec.upto netLinesSpec)) netLinesUptoCard

/-- THE SECOND FORM's CARD OF 'milestonelaw1.NetApart'. -/
def netApartUptoCard : Claim7 := { stood := { row := netApartUptoRow, standIns := [], harness := (true, "d8446e9103902f8744a678d5718c5e5b3ede9007c981abf4d4619d2a9af5f638"), looks := true }, kinds := [], alts := [], laidByText := true, laidKinds := [.data, .data, .data, .data, .sentinel, .sentinel, .pinned], laidTests := true, laidLooks := .later }
def NetApartUptoCardSaid : Prop := Claim7.holds Tryd.pinned (.plain (OpenSpec.upto netApartSpec)) netApartUptoCard
end Rows
end Go.Proofs.YtknhlpmmalcchaaDoor
