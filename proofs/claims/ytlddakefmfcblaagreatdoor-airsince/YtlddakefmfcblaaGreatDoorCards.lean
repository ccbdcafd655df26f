/-
  DERIVED. GIVEN WITH THE SEED: THE CARDS: each row of YtlddakefmfcblaaGreatDoorRows.lean that lists a variable, with what it lists TIED to the program's text (the seventh form; the later family's looks); each row that meets fmt, with fmt's text TOLD by the authors' own Lean function (tested against real Go, not proved from fmt's source: count such statements apart). THE CARD IS WHAT COUNTS. Prove the row's statement (the work); the ties are given (YtlddakefmfcblaaGreatDoorTie.lean); close each card by the builder's one call (the guide's Derived/Test/ToyasCard.lean, 'card_holds'). Laid BY PROGRAM, IN A SANDBOX (cutbox-door.mjs). By AI agents, Wed Nov 11 2026. No macro, syntax, notation, axiom, sorry.
-/
import Derived.Test.YtlddakefmfcblaaGreatDoorRows
import GoSem.ClaimSeven
namespace Go.Proofs.YtlddakefmfcblaaGreatDoor
namespace Rows

/-- THE TIED CARD OF 'pileuplaw01.AirPrefixes'. -/
def airPrefixesCard : Claim7 := { stood := { row := airPrefixesRow, standIns := [], harness := (true, "e13dca8d4619a64a69fa99222db8f18b16b74485258a6a257541940742401f67"), looks := true }, kinds := [], alts := [], laidByText := true, laidKinds := [.data, .data, .data, .data, .sentinel, .sentinel, .pinned], laidTests := true, laidLooks := .later }
def AirPrefixesCardSaid : Prop := Claim7.holds Tryz.pinned (.plain (OpenSpec.ofChange airPrefixesSpec)) airPrefixesCard

/-- THE TIED CARD OF 'pileuplaw01.AirBands'. -/
def airBandsCard : Claim7 := { stood := { row := airBandsRow, standIns := [], harness := (true, "e13dca8d4619a64a69fa99222db8f18b16b74485258a6a257541940742401f67"), looks := true }, kinds := [], alts := [], laidByText := true, laidKinds := [.data, .data, .data, .data, .sentinel, .sentinel, .pinned], laidTests := true, laidLooks := .later }
def AirBandsCardSaid : Prop := Claim7.holds Tryz.pinned (.plain (OpenSpec.ofChange airBandsSpec)) airBandsCard

/-- THE TIED CARD OF 'pileuplaw01.AirNear'. -/
def airNearCard : Claim7 := { stood := { row := airNearRow, standIns := [], harness := (true, "e13dca8d4619a64a69fa99222db8f18b16b74485258a6a257541940742401f67"), looks := true }, kinds := [], alts := [], laidByText := true, laidKinds := [.data, .data, .data, .data, .sentinel, .sentinel, .pinned], laidTests := true, laidLooks := .later }
def AirNearCardSaid : Prop := Claim7.holds Tryz.pinned (.plain (OpenSpec.ofChange airNearSpec)) airNearCard

/-- THE TIED CARD OF 'pileuplaw01.AirTimes'. -/
def airTimesCard : Claim7 := { stood := { row := airTimesRow, standIns := [], harness := (true, "e13dca8d4619a64a69fa99222db8f18b16b74485258a6a257541940742401f67"), looks := true }, kinds := [], alts := [], laidByText := true, laidKinds := [.data, .data, .data, .data, .sentinel, .sentinel, .pinned], laidTests := true, laidLooks := .later }
def AirTimesCardSaid : Prop := Claim7.holds Tryz.pinned (.plain (OpenSpec.ofChange airTimesSpec)) airTimesCard

/-- THE TIED CARD OF 'pileuplaw01.AirCalls'. -/
def airCallsCard : Claim7 := { stood := { row := airCallsRow, standIns := [], harness := (true, "e13dca8d4619a64a69fa99222db8f18b16b74485258a6a257541940742401f67"), looks := true }, kinds := [], alts := [], laidByText := true, laidKinds := [.data, .data, .data, .data, .sentinel, .sentinel, .pinned], laidTests := true, laidLooks := .later }
def AirCallsCardSaid : Prop := Claim7.holds Tryz.pinned (.plain (OpenSpec.ofChange airCallsSpec)) airCallsCard

/-- THE TIED CARD OF 'pileuplaw01.AirParts'. -/
def airPartsCard : Claim7 := { stood := { row := airPartsRow, standIns := [], harness := (true, "e13dca8d4619a64a69fa99222db8f18b16b74485258a6a257541940742401f67"), looks := true }, kinds := [], alts := [], laidByText := true, laidKinds := [.data, .data, .data, .data, .sentinel, .sentinel, .pinned], laidTests := true, laidLooks := .later }
def AirPartsCardSaid : Prop := Claim7.holds Tryz.pinned (.plain (OpenSpec.ofChange airPartsSpec)) airPartsCard

/-- THE TIED CARD OF 'pileuplaw01.AirAround'. -/
def airAroundCard : Claim7 := { stood := { row := airAroundRow, standIns := [], harness := (true, "e13dca8d4619a64a69fa99222db8f18b16b74485258a6a257541940742401f67"), looks := true }, kinds := [], alts := [], laidByText := true, laidKinds := [.data, .data, .data, .data, .sentinel, .sentinel, .pinned], laidTests := true, laidLooks := .later }
def AirAroundCardSaid : Prop := Claim7.holds Tryz.pinned (.plain (OpenSpec.ofChange airAroundSpec)) airAroundCard

/-- THE TIED CARD OF 'pileuplaw01.AirExchanges'. -/
def airExchangesCard : Claim7 := { stood := { row := airExchangesRow, standIns := [], harness := (true, "e13dca8d4619a64a69fa99222db8f18b16b74485258a6a257541940742401f67"), looks := true }, kinds := [], alts := [], laidByText := true, laidKinds := [.data, .data, .data, .data, .sentinel, .sentinel, .pinned], laidTests := true, laidLooks := .later }
def AirExchangesCardSaid : Prop := Claim7.holds Tryz.pinned (.plain (OpenSpec.ofChange airExchangesSpec)) airExchangesCard

/-- THE TIED CARD OF 'pileuplaw01.AirTexts'. -/
def airTextsCard : Claim7 := { stood := { row := airTextsRow, standIns := [], harness := (true, "e13dca8d4619a64a69fa99222db8f18b16b74485258a6a257541940742401f67"), looks := true }, kinds := [], alts := [], laidByText := true, laidKinds := [.data, .data, .data, .data, .sentinel, .sentinel, .pinned], laidTests := true, laidLooks := .later }
def AirTextsCardSaid : Prop := Claim7.holds Tryz.pinned (.plain (OpenSpec.ofChange airTextsSpec)) airTextsCard

/-- THE TIED CARD OF 'pileuplaw01.AirTables'. -/
def airTablesCard : Claim7 := { stood := { row := airTablesRow, standIns := [], harness := (true, "e13dca8d4619a64a69fa99222db8f18b16b74485258a6a257541940742401f67"), looks := true }, kinds := [], alts := [], laidByText := true, laidKinds := [.data, .data, .data, .data, .sentinel, .sentinel, .pinned], laidTests := true, laidLooks := .later }
def AirTablesCardSaid : Prop := Claim7.holds Tryz.pinned (.plain (OpenSpec.ofChange airTablesSpec)) airTablesCard

/-- THE TIED CARD OF 'pileuplaw01.AirRows'. -/
def airRowsCard : Claim7 := { stood := { row := airRowsRow, standIns := [], harness := (true, "e13dca8d4619a64a69fa99222db8f18b16b74485258a6a257541940742401f67"), looks := true }, kinds := [], alts := [], laidByText := true, laidKinds := [.data, .data, .data, .data, .sentinel, .sentinel, .pinned], laidTests := true, laidLooks := .later }
def AirRowsCardSaid : Prop := Claim7.holds Tryz.pinned (.plain (OpenSpec.ofChange airRowsSpec)) airRowsCard

/-- THE TIED CARD OF 'pileuplaw01.AirSince'. -/
def airSinceCard : Claim7 := { stood := { row := airSinceRow, standIns := [], harness := (true, "e13dca8d4619a64a69fa99222db8f18b16b74485258a6a257541940742401f67"), looks := true }, kinds := [], alts := [], laidByText := true, laidKinds := [.data, .data, .data, .data, .sentinel, .sentinel, .pinned], laidTests := true, laidLooks := .later }
def AirSinceCardSaid : Prop := Claim7.holds Tryz.pinned (.plain (OpenSpec.ofChange airSinceSpec)) airSinceCard

/-- THE TIED CARD OF 'pileuplaw01.AirOrder'. -/
def airOrderCard : Claim7 := { stood := { row := airOrderRow, standIns := [], harness := (true, "e13dca8d4619a64a69fa99222db8f18b16b74485258a6a257541940742401f67"), looks := true }, kinds := [], alts := [], laidByText := true, laidKinds := [.data, .data, .data, .data, .sentinel, .sentinel, .pinned], laidTests := true, laidLooks := .later }
def AirOrderCardSaid : Prop := Claim7.holds Tryz.pinned (.plain (OpenSpec.ofChange airOrderSpec)) airOrderCard

/-- THE TIED CARD OF 'pileuplaw01.AirDays'. -/
def airDaysCard : Claim7 := { stood := { row := airDaysRow, standIns := [], harness := (true, "e13dca8d4619a64a69fa99222db8f18b16b74485258a6a257541940742401f67"), looks := true }, kinds := [], alts := [], laidByText := true, laidKinds := [.data, .data, .data, .data, .sentinel, .sentinel, .pinned], laidTests := true, laidLooks := .later }
def AirDaysCardSaid : Prop := Claim7.holds Tryz.pinned (.plain (OpenSpec.ofChange airDaysSpec)) airDaysCard

/-- THE SECOND FORM's CARD OF 'pileuplaw01.AirPrefixes'. -/
def airPrefixesUptoCard : Claim7 := { stood := { row := airPrefixesUptoRow, standIns := [], harness := (true, "e13dca8d4619a64a69fa99222db8f18b16b74485258a6a257541940742401f67"), looks := true }, kinds := [], alts := [], laidByText := true, laidKinds := [.data, .data, .data, .data, .sentinel, .sentinel, .pinned], laidTests := true, laidLooks := .later }
def AirPrefixesUptoCardSaid : Prop := Claim7.holds Tryz.pinned (.plain (OpenSpec.upto airPrefixesSpec)) airPrefixesUptoCard

/-- THE SECOND FORM's CARD OF 'pileuplaw01.AirBands'. -/
def airBandsUptoCard : Claim7 := { stood := { row := airBandsUptoRow, standIns := [], harness := (true, "e13dca8d4619a64a69fa99222db8f18b16b74485258a6a257541940742401f67"), looks := true }, kinds := [], alts := [], laidByText := true, laidKinds := [.data, .data, .data, .data, .sentinel, .sentinel, .pinned], laidTests := true, laidLooks := .later }
def AirBandsUptoCardSaid : Prop := Claim7.holds Tryz.pinned (.plain (OpenSpec.upto airBandsSpec)) airBandsUptoCard

/-- THE SECOND FORM's CARD OF 'pileuplaw01.AirNear'. -/
def airNearUptoCard : Claim7 := { stood := { row := airNearUptoRow, standIns := [], harness := (true, "e13dca8d4619a64a69fa99222db8f18b16b74485258a6a257541940742401f67"), looks := true }, kinds := [], alts := [], laidByText := true, laidKinds := [.data, .data, .data, .data, .sentinel, .sentinel, .pinned], laidTests := true, laidLooks := .later }
def AirNearUptoCardSaid : Prop := Claim7.holds Tryz.pinned (.plain (OpenSpec.upto airNearSpec)) airNearUptoCard

/-- THE SECOND FORM's CARD OF 'pileuplaw01.AirTimes'. -/
def airTimesUptoCard : Claim7 := { stood := { row := airTimesUptoRow, standIns := [], harness := (true, "e13dca8d4619a64a69fa99222db8f18b16b74485258a6a257541940742401f67"), looks := true }, kinds := [], alts := [], laidByText := true, laidKinds := [.data, .data, .data, .data, .sentinel, .sentinel, .pinned], laidTests := true, laidLooks := .later }
def AirTimesUptoCardSaid : Prop := Claim7.holds Tryz.pinned (.plain (OpenSpec.upto airTimesSpec)) airTimesUptoCard

/-- THE SECOND FORM's CARD OF 'pileuplaw01.AirCalls'. -/
def airCallsUptoCard : Claim7 := { stood := { row := airCallsUptoRow, standIns := [], harness := (true, "e13dca8d4619a64a69fa99222db8f18b16b74485258a6a257541940742401f67"), looks := true }, kinds := [], alts := [], laidByText := true, laidKinds := [.data, .data, .data, .data, .sentinel, .sentinel, .pinned], laidTests := true, laidLooks := .later }
def AirCallsUptoCardSaid : Prop := Claim7.holds Tryz.pinned (.plain (OpenSpec.upto airCallsSpec)) airCallsUptoCard

/-- THE SECOND FORM's CARD OF 'pileuplaw01.AirParts'. -/
def airPartsUptoCard : Claim7 := { stood := { row := airPartsUptoRow, standIns := [], harness := (true, "e13dca8d4619a64a69fa99222db8f18b16b74485258a6a257541940742401f67"), looks := true }, kinds := [], alts := [], laidByText := true, laidKinds := [.data, .data, .data, .data, .sentinel, .sentinel, .pinned], laidTests := true, laidLooks := .later }
def AirPartsUptoCardSaid : Prop := Claim7.holds Tryz.pinned (.plain (OpenSpec.upto airPartsSpec)) airPartsUptoCard

/-- THE SECOND FORM's CARD OF 'pileuplaw01.AirAround'. -/
def airAroundUptoCard : Claim7 := { stood := { row := airAroundUptoRow, standIns := [], harness := (true, "e13dca8d4619a64a69fa99222db8f18b16b74485258a6a257541940742401f67"), looks := true }, kinds := [], alts := [], laidByText := true, laidKinds := [.data, .data, .data, .data, .sentinel, .sentinel, .pinned], laidTests := true, laidLooks := .later }
def AirAroundUptoCardSaid : Prop := Claim7.holds Tryz.pinned (.plain (OpenSpec.upto airAroundSpec)) airAroundUptoCard

/-- THE SECOND FORM's CARD OF 'pileuplaw01.AirExchanges'. -/
def airExchangesUptoCard : Claim7 := { stood := { row := airExchangesUptoRow, standIns := [], harness := (true, "e13dca8d4619a64a69fa99222db8f18b16b74485258a6a257541940742401f67"), looks := true }, kinds := [], alts := [], laidByText := true, laidKinds := [.data, .data, .data, .data, .sentinel, .sentinel, .pinned], laidTests := true, laidLooks := .later }
def AirExchangesUptoCardSaid : Prop := Claim7.holds Tryz.pinned (.plain (OpenSpec.upto airExchangesSpec)) airExchangesUptoCard

/-- THE SECOND FORM's CARD OF 'pileuplaw01.AirTexts'. -/
def airTextsUptoCard : Claim7 := { stood := { row := airTextsUptoRow, standIns := [], harness := (true, "e13dca8d4619a64a69fa99222db8f18b16b74485258a6a257541940742401f67"), looks := true }, kinds := [], alts := [], laidByText := true, laidKinds := [.data, .data, .data, .data, .sentinel, .sentinel, .pinned], laidTests := true, laidLooks := .later }
def AirTextsUptoCardSaid : Prop := Claim7.holds Tryz.pinned (.plain (OpenSpec.upto airTextsSpec)) airTextsUptoCard

/-- THE SECOND FORM's CARD OF 'pileuplaw01.AirTables'. -/
def airTablesUptoCard : Claim7 := { stood := { row := airTablesUptoRow, standIns := [], harness := (true, "e13dca8d4619a64a69fa99222db8f18b16b74485258a6a257541940742401f67"), looks := true }, kinds := [], alts := [], laidByText := true, laidKinds := [.data, .data, .data, .data, .sentinel, .sentinel, .pinned], laidTests := true, laidLooks := .later }
def AirTablesUptoCardSaid : Prop := Claim7.holds Tryz.pinned (.plain (OpenSpec.upto airTablesSpec)) airTablesUptoCard

/-- THE SECOND FORM's CARD OF 'pileuplaw01.AirRows'. -/
def airRowsUptoCard : Claim7 := { stood := { row := airRowsUptoRow, standIns := [], harness := (true, "e13dca8d4619a64a69fa99222db8f18b16b74485258a6a257541940742401f67"), looks := true }, kinds := [], alts := [], laidByText := true, laidKinds := [.data, .data, .data, .data, .sentinel, .sentinel, .pinned], laidTests := true, laidLooks := .later }
def AirRowsUptoCardSaid : Prop := Claim7.holds Tryz.pinned (.plain (OpenSpec.upto airRowsSpec)) airRowsUptoCard

/-- THE SECOND FORM's CARD OF 'pileuplaw01.AirSince'. -/
def airSinceUptoCard : Claim7 := { stood := { row := airSinceUptoRow, standIns := [], harness := (true, "e13dca8d4619a64a69fa99222db8f18b16b74485258a6a257541940742401f67"), looks := true }, kinds := [], alts := [], laidByText := true, laidKinds := [.data, .data, .data, .data, .sentinel, .sentinel, .pinned], laidTests := true, laidLooks := .later }
def AirSinceUptoCardSaid : Prop := Claim7.holds Tryz.pinned (.plain (OpenSpec.upto airSinceSpec)) airSinceUptoCard

/-- THE SECOND FORM's CARD OF 'pileuplaw01.AirOrder'. -/
def airOrderUptoCard : Claim7 := { stood := { row := airOrderUptoRow, standIns := [], harness := (true, "e13dca8d4619a64a69fa99222db8f18b16b74485258a6a257541940742401f67"), looks := true }, kinds := [], alts := [], laidByText := true, laidKinds := [.data, .data, .data, .data, .sentinel, .sentinel, .pinned], laidTests := true, laidLooks := .later }
def AirOrderUptoCardSaid : Prop := Claim7.holds Tryz.pinned (.plain (OpenSpec.upto airOrderSpec)) airOrderUptoCard

/-- THE SECOND FORM's CARD OF 'pileuplaw01.AirDays'. -/
def airDaysUptoCard : Claim7 := { stood := { row := airDaysUptoRow, standIns := [], harness := (true, "e13dca8d4619a64a69fa99222db8f18b16b74485258a6a257541940742401f67"), looks := true }, kinds := [], alts := [], laidByText := true, laidKinds := [.data, .data, .data, .data, .sentinel, .sentinel, .pinned], laidTests := true, laidLooks := .later }
def AirDaysUptoCardSaid : Prop := Claim7.holds Tryz.pinned (.plain (OpenSpec.upto airDaysSpec)) airDaysUptoCard
end Rows
end Go.Proofs.YtlddakefmfcblaaGreatDoor
