/-
  DERIVED. GIVEN WITH THE SEED: THE CARDS: each row of YthljkpeimofbbaaGreatDoorRows.lean that lists a variable, with what it lists TIED to the program's text (the seventh form; the later family's looks); each row that meets fmt, with fmt's text TOLD by the authors' own Lean function (tested against real Go, not proved from fmt's source: count such statements apart). THE CARD IS WHAT COUNTS. Prove the row's statement (the work); the ties are given (YthljkpeimofbbaaGreatDoorTie.lean); close each card by the builder's one call (the guide's Derived/Test/ToyasCard.lean, 'card_holds'). Laid BY PROGRAM, IN A SANDBOX (cutbox-door.mjs). By AI agents, Wed Nov 11 2026. No macro, syntax, notation, axiom, sorry.
-/
import Derived.Test.YthljkpeimofbbaaGreatDoorRows
import GoSem.ClaimSeven
namespace Go.Proofs.YthljkpeimofbbaaGreatDoor
namespace Rows

/-- THE TIED CARD OF 'pileuplaw02.LogsChecks'. -/
def logsChecksCard : Claim7 := { stood := { row := logsChecksRow, standIns := [], harness := (true, "8c4ab1a80a7e2c52077e9b3380faa1f8d4c3b8948d98da10affddce30d58f5b7"), looks := true }, kinds := [], alts := [], laidByText := true, laidKinds := [.data, .data, .data, .data, .sentinel, .sentinel, .pinned], laidTests := true, laidLooks := .later }
def LogsChecksCardSaid : Prop := Claim7.holds Tryz.pinned (.plain (OpenSpec.ofChange logsChecksSpec)) logsChecksCard

/-- THE TIED CARD OF 'pileuplaw02.LogsPrints'. -/
def logsPrintsCard : Claim7 := { stood := { row := logsPrintsRow, standIns := [], harness := (true, "8c4ab1a80a7e2c52077e9b3380faa1f8d4c3b8948d98da10affddce30d58f5b7"), looks := true }, kinds := [], alts := [], laidByText := true, laidKinds := [.data, .data, .data, .data, .sentinel, .sentinel, .pinned], laidTests := true, laidLooks := .later }
def LogsPrintsCardSaid : Prop := Claim7.holds Tryz.pinned (.plain (OpenSpec.ofChange logsPrintsSpec)) logsPrintsCard

/-- THE TIED CARD OF 'pileuplaw02.LogsParses'. -/
def logsParsesCard : Claim7 := { stood := { row := logsParsesRow, standIns := [], harness := (true, "8c4ab1a80a7e2c52077e9b3380faa1f8d4c3b8948d98da10affddce30d58f5b7"), looks := true }, kinds := [], alts := [], laidByText := true, laidKinds := [.data, .data, .data, .data, .sentinel, .sentinel, .pinned], laidTests := true, laidLooks := .later }
def LogsParsesCardSaid : Prop := Claim7.holds Tryz.pinned (.plain (OpenSpec.ofChange logsParsesSpec)) logsParsesCard

/-- THE TIED CARD OF 'pileuplaw02.LogsRepairs'. -/
def logsRepairsCard : Claim7 := { stood := { row := logsRepairsRow, standIns := [], harness := (true, "8c4ab1a80a7e2c52077e9b3380faa1f8d4c3b8948d98da10affddce30d58f5b7"), looks := true }, kinds := [], alts := [], laidByText := true, laidKinds := [.data, .data, .data, .data, .sentinel, .sentinel, .pinned], laidTests := true, laidLooks := .later }
def LogsRepairsCardSaid : Prop := Claim7.holds Tryz.pinned (.plain (OpenSpec.ofChange logsRepairsSpec)) logsRepairsCard

/-- THE TIED CARD OF 'pileuplaw02.LogsLines'. -/
def logsLinesCard : Claim7 := { stood := { row := logsLinesRow, standIns := [], harness := (true, "8c4ab1a80a7e2c52077e9b3380faa1f8d4c3b8948d98da10affddce30d58f5b7"), looks := true }, kinds := [], alts := [], laidByText := true, laidKinds := [.data, .data, .data, .data, .sentinel, .sentinel, .pinned], laidTests := true, laidLooks := .later }
def LogsLinesCardSaid : Prop := Claim7.holds Tryz.pinned (.plain (OpenSpec.ofChange logsLinesSpec)) logsLinesCard

/-- THE TIED CARD OF 'pileuplaw02.LogsPrefix'. -/
def logsPrefixCard : Claim7 := { stood := { row := logsPrefixRow, standIns := [], harness := (true, "8c4ab1a80a7e2c52077e9b3380faa1f8d4c3b8948d98da10affddce30d58f5b7"), looks := true }, kinds := [], alts := [], laidByText := true, laidKinds := [.data, .data, .data, .data, .sentinel, .sentinel, .pinned], laidTests := true, laidLooks := .later }
def LogsPrefixCardSaid : Prop := Claim7.holds Tryz.pinned (.plain (OpenSpec.ofChange logsPrefixSpec)) logsPrefixCard

/-- THE TIED CARD OF 'pileuplaw02.LogsFolds'. -/
def logsFoldsCard : Claim7 := { stood := { row := logsFoldsRow, standIns := [], harness := (true, "8c4ab1a80a7e2c52077e9b3380faa1f8d4c3b8948d98da10affddce30d58f5b7"), looks := true }, kinds := [], alts := [], laidByText := true, laidKinds := [.data, .data, .data, .data, .sentinel, .sentinel, .pinned], laidTests := true, laidLooks := .later }
def LogsFoldsCardSaid : Prop := Claim7.holds Tryz.pinned (.plain (OpenSpec.ofChange logsFoldsSpec)) logsFoldsCard

/-- THE TIED CARD OF 'pileuplaw02.LogsWhole'. -/
def logsWholeCard : Claim7 := { stood := { row := logsWholeRow, standIns := [], harness := (true, "8c4ab1a80a7e2c52077e9b3380faa1f8d4c3b8948d98da10affddce30d58f5b7"), looks := true }, kinds := [], alts := [], laidByText := true, laidKinds := [.data, .data, .data, .data, .sentinel, .sentinel, .pinned], laidTests := true, laidLooks := .later }
def LogsWholeCardSaid : Prop := Claim7.holds Tryz.pinned (.plain (OpenSpec.ofChange logsWholeSpec)) logsWholeCard

/-- THE TIED CARD OF 'pileuplaw02.LogsBack'. -/
def logsBackCard : Claim7 := { stood := { row := logsBackRow, standIns := [], harness := (true, "8c4ab1a80a7e2c52077e9b3380faa1f8d4c3b8948d98da10affddce30d58f5b7"), looks := true }, kinds := [], alts := [], laidByText := true, laidKinds := [.data, .data, .data, .data, .sentinel, .sentinel, .pinned], laidTests := true, laidLooks := .later }
def LogsBackCardSaid : Prop := Claim7.holds Tryz.pinned (.plain (OpenSpec.ofChange logsBackSpec)) logsBackCard

/-- THE TIED CARD OF 'pileuplaw02.LogsOrder'. -/
def logsOrderCard : Claim7 := { stood := { row := logsOrderRow, standIns := [], harness := (true, "8c4ab1a80a7e2c52077e9b3380faa1f8d4c3b8948d98da10affddce30d58f5b7"), looks := true }, kinds := [], alts := [], laidByText := true, laidKinds := [.data, .data, .data, .data, .sentinel, .sentinel, .pinned], laidTests := true, laidLooks := .later }
def LogsOrderCardSaid : Prop := Claim7.holds Tryz.pinned (.plain (OpenSpec.ofChange logsOrderSpec)) logsOrderCard

/-- THE TIED CARD OF 'pileuplaw02.LogsMends'. -/
def logsMendsCard : Claim7 := { stood := { row := logsMendsRow, standIns := [], harness := (true, "8c4ab1a80a7e2c52077e9b3380faa1f8d4c3b8948d98da10affddce30d58f5b7"), looks := true }, kinds := [], alts := [], laidByText := true, laidKinds := [.data, .data, .data, .data, .sentinel, .sentinel, .pinned], laidTests := true, laidLooks := .later }
def LogsMendsCardSaid : Prop := Claim7.holds Tryz.pinned (.plain (OpenSpec.ofChange logsMendsSpec)) logsMendsCard

/-- THE TIED CARD OF 'pileuplaw02.LogsLeast'. -/
def logsLeastCard : Claim7 := { stood := { row := logsLeastRow, standIns := [], harness := (true, "8c4ab1a80a7e2c52077e9b3380faa1f8d4c3b8948d98da10affddce30d58f5b7"), looks := true }, kinds := [], alts := [], laidByText := true, laidKinds := [.data, .data, .data, .data, .sentinel, .sentinel, .pinned], laidTests := true, laidLooks := .later }
def LogsLeastCardSaid : Prop := Claim7.holds Tryz.pinned (.plain (OpenSpec.ofChange logsLeastSpec)) logsLeastCard

/-- THE TIED CARD OF 'pileuplaw02.LogsFixes'. -/
def logsFixesCard : Claim7 := { stood := { row := logsFixesRow, standIns := [], harness := (true, "8c4ab1a80a7e2c52077e9b3380faa1f8d4c3b8948d98da10affddce30d58f5b7"), looks := true }, kinds := [], alts := [], laidByText := true, laidKinds := [.data, .data, .data, .data, .sentinel, .sentinel, .pinned], laidTests := true, laidLooks := .later }
def LogsFixesCardSaid : Prop := Claim7.holds Tryz.pinned (.plain (OpenSpec.ofChange logsFixesSpec)) logsFixesCard

/-- THE TIED CARD OF 'pileuplaw02.LogsDiffs'. -/
def logsDiffsCard : Claim7 := { stood := { row := logsDiffsRow, standIns := [], harness := (true, "8c4ab1a80a7e2c52077e9b3380faa1f8d4c3b8948d98da10affddce30d58f5b7"), looks := true }, kinds := [], alts := [], laidByText := true, laidKinds := [.data, .data, .data, .data, .sentinel, .sentinel, .pinned], laidTests := true, laidLooks := .later }
def LogsDiffsCardSaid : Prop := Claim7.holds Tryz.pinned (.plain (OpenSpec.ofChange logsDiffsSpec)) logsDiffsCard

/-- THE TIED CARD OF 'pileuplaw02.LogsFinds'. -/
def logsFindsCard : Claim7 := { stood := { row := logsFindsRow, standIns := [], harness := (true, "8c4ab1a80a7e2c52077e9b3380faa1f8d4c3b8948d98da10affddce30d58f5b7"), looks := true }, kinds := [], alts := [], laidByText := true, laidKinds := [.data, .data, .data, .data, .sentinel, .sentinel, .pinned], laidTests := true, laidLooks := .later }
def LogsFindsCardSaid : Prop := Claim7.holds Tryz.pinned (.plain (OpenSpec.ofChange logsFindsSpec)) logsFindsCard

/-- THE TIED CARD OF 'pileuplaw02.LogsLooks'. -/
def logsLooksCard : Claim7 := { stood := { row := logsLooksRow, standIns := [], harness := (true, "8c4ab1a80a7e2c52077e9b3380faa1f8d4c3b8948d98da10affddce30d58f5b7"), looks := true }, kinds := [], alts := [], laidByText := true, laidKinds := [.data, .data, .data, .data, .sentinel, .sentinel, .pinned], laidTests := true, laidLooks := .later }
def LogsLooksCardSaid : Prop := Claim7.holds Tryz.pinned (.plain (OpenSpec.ofChange logsLooksSpec)) logsLooksCard

/-- THE SECOND FORM's CARD OF 'pileuplaw02.LogsChecks'. -/
def logsChecksUptoCard : Claim7 := { stood := { row := logsChecksUptoRow, standIns := [], harness := (true, "8c4ab1a80a7e2c52077e9b3380faa1f8d4c3b8948d98da10affddce30d58f5b7"), looks := true }, kinds := [], alts := [], laidByText := true, laidKinds := [.data, .data, .data, .data, .sentinel, .sentinel, .pinned], laidTests := true, laidLooks := .later }
def LogsChecksUptoCardSaid : Prop := Claim7.holds Tryz.pinned (.plain (OpenSpec.upto logsChecksSpec)) logsChecksUptoCard

/-- THE SECOND FORM's CARD OF 'pileuplaw02.LogsPrints'. -/
def logsPrintsUptoCard : Claim7 := { stood := { row := logsPrintsUptoRow, standIns := [], harness := (true, "8c4ab1a80a7e2c52077e9b3380faa1f8d4c3b8948d98da10affddce30d58f5b7"), looks := true }, kinds := [], alts := [], laidByText := true, laidKinds := [.data, .data, .data, .data, .sentinel, .sentinel, .pinned], laidTests := true, laidLooks := .later }
def LogsPrintsUptoCardSaid : Prop := Claim7.holds Tryz.pinned (.plain (OpenSpec.upto logsPrintsSpec)) logsPrintsUptoCard

/-- THE SECOND FORM's CARD OF 'pileuplaw02.LogsParses'. -/
def logsParsesUptoCard : Claim7 := { stood := { row := logsParsesUptoRow, standIns := [], harness := (true, "8c4ab1a80a7e2c52077e9b3380faa1f8d4c3b8948d98da10affddce30d58f5b7"), looks := true }, kinds := [], alts := [], laidByText := true, laidKinds := [.data, .data, .data, .data, .sentinel, .sentinel, .pinned], laidTests := true, laidLooks := .later }
def LogsParsesUptoCardSaid : Prop := Claim7.holds Tryz.pinned (.plain (OpenSpec.upto logsParsesSpec)) logsParsesUptoCard

/-- THE SECOND FORM's CARD OF 'pileuplaw02.LogsRepairs'. -/
def logsRepairsUptoCard : Claim7 := { stood := { row := logsRepairsUptoRow, standIns := [], harness := (true, "8c4ab1a80a7e2c52077e9b3380faa1f8d4c3b8948d98da10affddce30d58f5b7"), looks := true }, kinds := [], alts := [], laidByText := true, laidKinds := [.data, .data, .data, .data, .sentinel, .sentinel, .pinned], laidTests := true, laidLooks := .later }
def LogsRepairsUptoCardSaid : Prop := Claim7.holds Tryz.pinned (.plain (OpenSpec.upto logsRepairsSpec)) logsRepairsUptoCard

/-- THE SECOND FORM's CARD OF 'pileuplaw02.LogsLines'. -/
def logsLinesUptoCard : Claim7 := { stood := { row := logsLinesUptoRow, standIns := [], harness := (true, "8c4ab1a80a7e2c52077e9b3380faa1f8d4c3b8948d98da10affddce30d58f5b7"), looks := true }, kinds := [], alts := [], laidByText := true, laidKinds := [.data, .data, .data, .data, .sentinel, .sentinel, .pinned], laidTests := true, laidLooks := .later }
def LogsLinesUptoCardSaid : Prop := Claim7.holds Tryz.pinned (.plain (OpenSpec.upto logsLinesSpec)) logsLinesUptoCard

/-- THE SECOND FORM's CARD OF 'pileuplaw02.LogsPrefix'. -/
def logsPrefixUptoCard : Claim7 := { stood := { row := logsPrefixUptoRow, standIns := [], harness := (true, "8c4ab1a80a7e2c52077e9b3380faa1f8d4c3b8948d98da10affddce30d58f5b7"), looks := true }, kinds := [], alts := [], laidByText := true, laidKinds := [.data, .data, .data, .data, .sentinel, .sentinel, .pinned], laidTests := true, laidLooks := .later }
def LogsPrefixUptoCardSaid : Prop := Claim7.holds Tryz.pinned (.plain (OpenSpec.upto logsPrefixSpec)) logsPrefixUptoCard

/-- THE SECOND FORM's CARD OF 'pileuplaw02.LogsFolds'. -/
def logsFoldsUptoCard : Claim7 := { stood := { row := logsFoldsUptoRow, standIns := [], harness := (true, "8c4ab1a80a7e2c52077e9b3380faa1f8d4c3b8948d98da10affddce30d58f5b7"), looks := true }, kinds := [], alts := [], laidByText := true, laidKinds := [.data, .data, .data, .data, .sentinel, .sentinel, .pinned], laidTests := true, laidLooks := .later }
def LogsFoldsUptoCardSaid : Prop := Claim7.holds Tryz.pinned (.plain (OpenSpec.upto logsFoldsSpec)) logsFoldsUptoCard

/-- THE SECOND FORM's CARD OF 'pileuplaw02.LogsWhole'. -/
def logsWholeUptoCard : Claim7 := { stood := { row := logsWholeUptoRow, standIns := [], harness := (true, "8c4ab1a80a7e2c52077e9b3380faa1f8d4c3b8948d98da10affddce30d58f5b7"), looks := true }, kinds := [], alts := [], laidByText := true, laidKinds := [.data, .data, .data, .data, .sentinel, .sentinel, .pinned], laidTests := true, laidLooks := .later }
def LogsWholeUptoCardSaid : Prop := Claim7.holds Tryz.pinned (.plain (OpenSpec.upto logsWholeSpec)) logsWholeUptoCard

/-- THE SECOND FORM's CARD OF 'pileuplaw02.LogsBack'. -/
def logsBackUptoCard : Claim7 := { stood := { row := logsBackUptoRow, standIns := [], harness := (true, "8c4ab1a80a7e2c52077e9b3380faa1f8d4c3b8948d98da10affddce30d58f5b7"), looks := true }, kinds := [], alts := [], laidByText := true, laidKinds := [.data, .data, .data, .data, .sentinel, .sentinel, .pinned], laidTests := true, laidLooks := .later }
def LogsBackUptoCardSaid : Prop := Claim7.holds Tryz.pinned (.plain (OpenSpec.upto logsBackSpec)) logsBackUptoCard

/-- THE SECOND FORM's CARD OF 'pileuplaw02.LogsOrder'. -/
def logsOrderUptoCard : Claim7 := { stood := { row := logsOrderUptoRow, standIns := [], harness := (true, "8c4ab1a80a7e2c52077e9b3380faa1f8d4c3b8948d98da10affddce30d58f5b7"), looks := true }, kinds := [], alts := [], laidByText := true, laidKinds := [.data, .data, .data, .data, .sentinel, .sentinel, .pinned], laidTests := true, laidLooks := .later }
def LogsOrderUptoCardSaid : Prop := Claim7.holds Tryz.pinned (.plain (OpenSpec.upto logsOrderSpec)) logsOrderUptoCard

/-- THE SECOND FORM's CARD OF 'pileuplaw02.LogsMends'. -/
def logsMendsUptoCard : Claim7 := { stood := { row := logsMendsUptoRow, standIns := [], harness := (true, "8c4ab1a80a7e2c52077e9b3380faa1f8d4c3b8948d98da10affddce30d58f5b7"), looks := true }, kinds := [], alts := [], laidByText := true, laidKinds := [.data, .data, .data, .data, .sentinel, .sentinel, .pinned], laidTests := true, laidLooks := .later }
def LogsMendsUptoCardSaid : Prop := Claim7.holds Tryz.pinned (.plain (OpenSpec.upto logsMendsSpec)) logsMendsUptoCard

/-- THE SECOND FORM's CARD OF 'pileuplaw02.LogsLeast'. -/
def logsLeastUptoCard : Claim7 := { stood := { row := logsLeastUptoRow, standIns := [], harness := (true, "8c4ab1a80a7e2c52077e9b3380faa1f8d4c3b8948d98da10affddce30d58f5b7"), looks := true }, kinds := [], alts := [], laidByText := true, laidKinds := [.data, .data, .data, .data, .sentinel, .sentinel, .pinned], laidTests := true, laidLooks := .later }
def LogsLeastUptoCardSaid : Prop := Claim7.holds Tryz.pinned (.plain (OpenSpec.upto logsLeastSpec)) logsLeastUptoCard

/-- THE SECOND FORM's CARD OF 'pileuplaw02.LogsFixes'. -/
def logsFixesUptoCard : Claim7 := { stood := { row := logsFixesUptoRow, standIns := [], harness := (true, "8c4ab1a80a7e2c52077e9b3380faa1f8d4c3b8948d98da10affddce30d58f5b7"), looks := true }, kinds := [], alts := [], laidByText := true, laidKinds := [.data, .data, .data, .data, .sentinel, .sentinel, .pinned], laidTests := true, laidLooks := .later }
def LogsFixesUptoCardSaid : Prop := Claim7.holds Tryz.pinned (.plain (OpenSpec.upto logsFixesSpec)) logsFixesUptoCard

/-- THE SECOND FORM's CARD OF 'pileuplaw02.LogsDiffs'. -/
def logsDiffsUptoCard : Claim7 := { stood := { row := logsDiffsUptoRow, standIns := [], harness := (true, "8c4ab1a80a7e2c52077e9b3380faa1f8d4c3b8948d98da10affddce30d58f5b7"), looks := true }, kinds := [], alts := [], laidByText := true, laidKinds := [.data, .data, .data, .data, .sentinel, .sentinel, .pinned], laidTests := true, laidLooks := .later }
def LogsDiffsUptoCardSaid : Prop := Claim7.holds Tryz.pinned (.plain (OpenSpec.upto logsDiffsSpec)) logsDiffsUptoCard

/-- THE SECOND FORM's CARD OF 'pileuplaw02.LogsFinds'. -/
def logsFindsUptoCard : Claim7 := { stood := { row := logsFindsUptoRow, standIns := [], harness := (true, "8c4ab1a80a7e2c52077e9b3380faa1f8d4c3b8948d98da10affddce30d58f5b7"), looks := true }, kinds := [], alts := [], laidByText := true, laidKinds := [.data, .data, .data, .data, .sentinel, .sentinel, .pinned], laidTests := true, laidLooks := .later }
def LogsFindsUptoCardSaid : Prop := Claim7.holds Tryz.pinned (.plain (OpenSpec.upto logsFindsSpec)) logsFindsUptoCard

/-- THE SECOND FORM's CARD OF 'pileuplaw02.LogsLooks'. -/
def logsLooksUptoCard : Claim7 := { stood := { row := logsLooksUptoRow, standIns := [], harness := (true, "8c4ab1a80a7e2c52077e9b3380faa1f8d4c3b8948d98da10affddce30d58f5b7"), looks := true }, kinds := [], alts := [], laidByText := true, laidKinds := [.data, .data, .data, .data, .sentinel, .sentinel, .pinned], laidTests := true, laidLooks := .later }
def LogsLooksUptoCardSaid : Prop := Claim7.holds Tryz.pinned (.plain (OpenSpec.upto logsLooksSpec)) logsLooksUptoCard
end Rows
end Go.Proofs.YthljkpeimofbbaaGreatDoor
