/-
  DERIVED. GIVEN WITH THE SEED: THE CARDS: each row of YtaihlcdkcampbaaGreatDoorRows.lean that lists a variable, with what it lists TIED to the program's text (the seventh form; the later family's looks); each row that meets fmt, with fmt's text TOLD by the authors' own Lean function (tested against real Go, not proved from fmt's source: count such statements apart). THE CARD IS WHAT COUNTS. Prove the row's statement (the work); the ties are given (YtaihlcdkcampbaaGreatDoorTie.lean); close each card by the builder's one call (the guide's Derived/Test/ToyasCard.lean, 'card_holds'). Laid BY PROGRAM, IN A SANDBOX (cutbox-door.mjs). By AI agents, Wed Nov 11 2026. No macro, syntax, notation, axiom, sorry.
-/
import Derived.Test.YtaihlcdkcampbaaGreatDoorRows
import GoSem.ClaimSeven
namespace Go.Proofs.YtaihlcdkcampbaaGreatDoor
namespace Rows

/-- THE TIED CARD OF 'pileuplaw06.RulesParses'. -/
def rulesParsesCard : Claim7 := { stood := { row := rulesParsesRow, standIns := [], harness := (true, "9ef67a4cb07571d798ed60e513598468ebe5a66f3455e0900720288bced703b8"), looks := true }, kinds := [], alts := [], laidByText := true, laidKinds := [.data, .data, .data, .sentinel, .sentinel], laidTests := true, laidLooks := .later }
def RulesParsesCardSaid : Prop := Claim7.holds Tryz.pinned (.plain (OpenSpec.ofChange rulesParsesSpec)) rulesParsesCard

/-- THE TIED CARD OF 'pileuplaw06.RulesReads'. -/
def rulesReadsCard : Claim7 := { stood := { row := rulesReadsRow, standIns := [], harness := (true, "9ef67a4cb07571d798ed60e513598468ebe5a66f3455e0900720288bced703b8"), looks := true }, kinds := [], alts := [], laidByText := true, laidKinds := [.data, .data, .data, .sentinel, .sentinel], laidTests := true, laidLooks := .later }
def RulesReadsCardSaid : Prop := Claim7.holds Tryz.pinned (.plain (OpenSpec.ofChange rulesReadsSpec)) rulesReadsCard

/-- THE TIED CARD OF 'pileuplaw06.RulesSimple'. -/
def rulesSimpleCard : Claim7 := { stood := { row := rulesSimpleRow, standIns := [], harness := (true, "9ef67a4cb07571d798ed60e513598468ebe5a66f3455e0900720288bced703b8"), looks := true }, kinds := [], alts := [], laidByText := true, laidKinds := [.data, .data, .data, .sentinel, .sentinel], laidTests := true, laidLooks := .later }
def RulesSimpleCardSaid : Prop := Claim7.holds Tryz.pinned (.plain (OpenSpec.ofChange rulesSimpleSpec)) rulesSimpleCard

/-- THE TIED CARD OF 'pileuplaw06.RulesBlanks'. -/
def rulesBlanksCard : Claim7 := { stood := { row := rulesBlanksRow, standIns := [], harness := (true, "9ef67a4cb07571d798ed60e513598468ebe5a66f3455e0900720288bced703b8"), looks := true }, kinds := [], alts := [], laidByText := true, laidKinds := [.data, .data, .data, .sentinel, .sentinel], laidTests := true, laidLooks := .later }
def RulesBlanksCardSaid : Prop := Claim7.holds Tryz.pinned (.plain (OpenSpec.ofChange rulesBlanksSpec)) rulesBlanksCard

/-- THE TIED CARD OF 'pileuplaw06.RulesEvals'. -/
def rulesEvalsCard : Claim7 := { stood := { row := rulesEvalsRow, standIns := [], harness := (true, "9ef67a4cb07571d798ed60e513598468ebe5a66f3455e0900720288bced703b8"), looks := true }, kinds := [], alts := [], laidByText := true, laidKinds := [.data, .data, .data, .sentinel, .sentinel], laidTests := true, laidLooks := .later }
def RulesEvalsCardSaid : Prop := Claim7.holds Tryz.pinned (.plain (OpenSpec.ofChange rulesEvalsSpec)) rulesEvalsCard

/-- THE TIED CARD OF 'pileuplaw06.RulesFirst'. -/
def rulesFirstCard : Claim7 := { stood := { row := rulesFirstRow, standIns := [], harness := (true, "9ef67a4cb07571d798ed60e513598468ebe5a66f3455e0900720288bced703b8"), looks := true }, kinds := [], alts := [], laidByText := true, laidKinds := [.data, .data, .data, .sentinel, .sentinel], laidTests := true, laidLooks := .later }
def RulesFirstCardSaid : Prop := Claim7.holds Tryz.pinned (.plain (OpenSpec.ofChange rulesFirstSpec)) rulesFirstCard

/-- THE TIED CARD OF 'pileuplaw06.RulesApplies'. -/
def rulesAppliesCard : Claim7 := { stood := { row := rulesAppliesRow, standIns := [], harness := (true, "9ef67a4cb07571d798ed60e513598468ebe5a66f3455e0900720288bced703b8"), looks := true }, kinds := [], alts := [], laidByText := true, laidKinds := [.data, .data, .data, .sentinel, .sentinel], laidTests := true, laidLooks := .later }
def RulesAppliesCardSaid : Prop := Claim7.holds Tryz.pinned (.plain (OpenSpec.ofChange rulesAppliesSpec)) rulesAppliesCard

/-- THE TIED CARD OF 'pileuplaw06.RulesPrints'. -/
def rulesPrintsCard : Claim7 := { stood := { row := rulesPrintsRow, standIns := [], harness := (true, "9ef67a4cb07571d798ed60e513598468ebe5a66f3455e0900720288bced703b8"), looks := true }, kinds := [], alts := [], laidByText := true, laidKinds := [.data, .data, .data, .sentinel, .sentinel], laidTests := true, laidLooks := .later }
def RulesPrintsCardSaid : Prop := Claim7.holds Tryz.pinned (.plain (OpenSpec.ofChange rulesPrintsSpec)) rulesPrintsCard

/-- THE TIED CARD OF 'pileuplaw06.RulesBack'. -/
def rulesBackCard : Claim7 := { stood := { row := rulesBackRow, standIns := [], harness := (true, "9ef67a4cb07571d798ed60e513598468ebe5a66f3455e0900720288bced703b8"), looks := true }, kinds := [], alts := [], laidByText := true, laidKinds := [.data, .data, .data, .sentinel, .sentinel], laidTests := true, laidLooks := .later }
def RulesBackCardSaid : Prop := Claim7.holds Tryz.pinned (.plain (OpenSpec.ofChange rulesBackSpec)) rulesBackCard

/-- THE TIED CARD OF 'pileuplaw06.RulesDiffers'. -/
def rulesDiffersCard : Claim7 := { stood := { row := rulesDiffersRow, standIns := [], harness := (true, "9ef67a4cb07571d798ed60e513598468ebe5a66f3455e0900720288bced703b8"), looks := true }, kinds := [], alts := [], laidByText := true, laidKinds := [.data, .data, .data, .sentinel, .sentinel], laidTests := true, laidLooks := .later }
def RulesDiffersCardSaid : Prop := Claim7.holds Tryz.pinned (.plain (OpenSpec.ofChange rulesDiffersSpec)) rulesDiffersCard

/-- THE TIED CARD OF 'pileuplaw06.RulesShadows'. -/
def rulesShadowsCard : Claim7 := { stood := { row := rulesShadowsRow, standIns := [], harness := (true, "9ef67a4cb07571d798ed60e513598468ebe5a66f3455e0900720288bced703b8"), looks := true }, kinds := [], alts := [], laidByText := true, laidKinds := [.data, .data, .data, .sentinel, .sentinel], laidTests := true, laidLooks := .later }
def RulesShadowsCardSaid : Prop := Claim7.holds Tryz.pinned (.plain (OpenSpec.ofChange rulesShadowsSpec)) rulesShadowsCard

/-- THE TIED CARD OF 'pileuplaw06.RulesClashes'. -/
def rulesClashesCard : Claim7 := { stood := { row := rulesClashesRow, standIns := [], harness := (true, "9ef67a4cb07571d798ed60e513598468ebe5a66f3455e0900720288bced703b8"), looks := true }, kinds := [], alts := [], laidByText := true, laidKinds := [.data, .data, .data, .sentinel, .sentinel], laidTests := true, laidLooks := .later }
def RulesClashesCardSaid : Prop := Claim7.holds Tryz.pinned (.plain (OpenSpec.ofChange rulesClashesSpec)) rulesClashesCard

/-- THE TIED CARD OF 'pileuplaw06.RulesGapless'. -/
def rulesGaplessCard : Claim7 := { stood := { row := rulesGaplessRow, standIns := [], harness := (true, "9ef67a4cb07571d798ed60e513598468ebe5a66f3455e0900720288bced703b8"), looks := true }, kinds := [], alts := [], laidByText := true, laidKinds := [.data, .data, .data, .sentinel, .sentinel], laidTests := true, laidLooks := .later }
def RulesGaplessCardSaid : Prop := Claim7.holds Tryz.pinned (.plain (OpenSpec.ofChange rulesGaplessSpec)) rulesGaplessCard

/-- THE TIED CARD OF 'pileuplaw06.RulesEqual'. -/
def rulesEqualCard : Claim7 := { stood := { row := rulesEqualRow, standIns := [], harness := (true, "9ef67a4cb07571d798ed60e513598468ebe5a66f3455e0900720288bced703b8"), looks := true }, kinds := [], alts := [], laidByText := true, laidKinds := [.data, .data, .data, .sentinel, .sentinel], laidTests := true, laidLooks := .later }
def RulesEqualCardSaid : Prop := Claim7.holds Tryz.pinned (.plain (OpenSpec.ofChange rulesEqualSpec)) rulesEqualCard

/-- THE TIED CARD OF 'pileuplaw06.RulesGaps'. -/
def rulesGapsCard : Claim7 := { stood := { row := rulesGapsRow, standIns := [], harness := (true, "9ef67a4cb07571d798ed60e513598468ebe5a66f3455e0900720288bced703b8"), looks := true }, kinds := [], alts := [], laidByText := true, laidKinds := [.data, .data, .data, .sentinel, .sentinel], laidTests := true, laidLooks := .later }
def RulesGapsCardSaid : Prop := Claim7.holds Tryz.pinned (.plain (OpenSpec.ofChange rulesGapsSpec)) rulesGapsCard

/-- THE TIED CARD OF 'pileuplaw06.RulesChecks'. -/
def rulesChecksCard : Claim7 := { stood := { row := rulesChecksRow, standIns := [], harness := (true, "9ef67a4cb07571d798ed60e513598468ebe5a66f3455e0900720288bced703b8"), looks := true }, kinds := [], alts := [], laidByText := true, laidKinds := [.data, .data, .data, .sentinel, .sentinel], laidTests := true, laidLooks := .later }
def RulesChecksCardSaid : Prop := Claim7.holds Tryz.pinned (.plain (OpenSpec.ofChange rulesChecksSpec)) rulesChecksCard

/-- THE TIED CARD OF 'pileuplaw06.RulesTypes'. -/
def rulesTypesCard : Claim7 := { stood := { row := rulesTypesRow, standIns := [], harness := (true, "9ef67a4cb07571d798ed60e513598468ebe5a66f3455e0900720288bced703b8"), looks := true }, kinds := [], alts := [], laidByText := true, laidKinds := [.data, .data, .data, .sentinel, .sentinel], laidTests := true, laidLooks := .later }
def RulesTypesCardSaid : Prop := Claim7.holds Tryz.pinned (.plain (OpenSpec.ofChange rulesTypesSpec)) rulesTypesCard

/-- THE TIED CARD OF 'pileuplaw06.RulesShort'. -/
def rulesShortCard : Claim7 := { stood := { row := rulesShortRow, standIns := [], harness := (true, "9ef67a4cb07571d798ed60e513598468ebe5a66f3455e0900720288bced703b8"), looks := true }, kinds := [], alts := [], laidByText := true, laidKinds := [.data, .data, .data, .sentinel, .sentinel], laidTests := true, laidLooks := .later }
def RulesShortCardSaid : Prop := Claim7.holds Tryz.pinned (.plain (OpenSpec.ofChange rulesShortSpec)) rulesShortCard

/-- THE SECOND FORM's CARD OF 'pileuplaw06.RulesParses'. -/
def rulesParsesUptoCard : Claim7 := { stood := { row := rulesParsesUptoRow, standIns := [], harness := (true, "9ef67a4cb07571d798ed60e513598468ebe5a66f3455e0900720288bced703b8"), looks := true }, kinds := [], alts := [], laidByText := true, laidKinds := [.data, .data, .data, .sentinel, .sentinel], laidTests := true, laidLooks := .later }
def RulesParsesUptoCardSaid : Prop := Claim7.holds Tryz.pinned (.plain (OpenSpec.upto rulesParsesSpec)) rulesParsesUptoCard

/-- THE SECOND FORM's CARD OF 'pileuplaw06.RulesReads'. -/
def rulesReadsUptoCard : Claim7 := { stood := { row := rulesReadsUptoRow, standIns := [], harness := (true, "9ef67a4cb07571d798ed60e513598468ebe5a66f3455e0900720288bced703b8"), looks := true }, kinds := [], alts := [], laidByText := true, laidKinds := [.data, .data, .data, .sentinel, .sentinel], laidTests := true, laidLooks := .later }
def RulesReadsUptoCardSaid : Prop := Claim7.holds Tryz.pinned (.plain (OpenSpec.upto rulesReadsSpec)) rulesReadsUptoCard

/-- THE SECOND FORM's CARD OF 'pileuplaw06.RulesSimple'. -/
def rulesSimpleUptoCard : Claim7 := { stood := { row := rulesSimpleUptoRow, standIns := [], harness := (true, "9ef67a4cb07571d798ed60e513598468ebe5a66f3455e0900720288bced703b8"), looks := true }, kinds := [], alts := [], laidByText := true, laidKinds := [.data, .data, .data, .sentinel, .sentinel], laidTests := true, laidLooks := .later }
def RulesSimpleUptoCardSaid : Prop := Claim7.holds Tryz.pinned (.plain (OpenSpec.upto rulesSimpleSpec)) rulesSimpleUptoCard

/-- THE SECOND FORM's CARD OF 'pileuplaw06.RulesBlanks'. -/
def rulesBlanksUptoCard : Claim7 := { stood := { row := rulesBlanksUptoRow, standIns := [], harness := (true, "9ef67a4cb07571d798ed60e513598468ebe5a66f3455e0900720288bced703b8"), looks := true }, kinds := [], alts := [], laidByText := true, laidKinds := [.data, .data, .data, .sentinel, .sentinel], laidTests := true, laidLooks := .later }
def RulesBlanksUptoCardSaid : Prop := Claim7.holds Tryz.pinned (.plain (OpenSpec.upto rulesBlanksSpec)) rulesBlanksUptoCard

/-- THE SECOND FORM's CARD OF 'pileuplaw06.RulesEvals'. -/
def rulesEvalsUptoCard : Claim7 := { stood := { row := rulesEvalsUptoRow, standIns := [], harness := (true, "9ef67a4cb07571d798ed60e513598468ebe5a66f3455e0900720288bced703b8"), looks := true }, kinds := [], alts := [], laidByText := true, laidKinds := [.data, .data, .data, .sentinel, .sentinel], laidTests := true, laidLooks := .later }
def RulesEvalsUptoCardSaid : Prop := Claim7.holds Tryz.pinned (.plain (OpenSpec.upto rulesEvalsSpec)) rulesEvalsUptoCard

/-- THE SECOND FORM's CARD OF 'pileuplaw06.RulesFirst'. -/
def rulesFirstUptoCard : Claim7 := { stood := { row := rulesFirstUptoRow, standIns := [], harness := (true, "9ef67a4cb07571d798ed60e513598468ebe5a66f3455e0900720288bced703b8"), looks := true }, kinds := [], alts := [], laidByText := true, laidKinds := [.data, .data, .data, .sentinel, .sentinel], laidTests := true, laidLooks := .later }
def RulesFirstUptoCardSaid : Prop := Claim7.holds Tryz.pinned (.plain (OpenSpec.upto rulesFirstSpec)) rulesFirstUptoCard

/-- THE SECOND FORM's CARD OF 'pileuplaw06.RulesApplies'. -/
def rulesAppliesUptoCard : Claim7 := { stood := { row := rulesAppliesUptoRow, standIns := [], harness := (true, "9ef67a4cb07571d798ed60e513598468ebe5a66f3455e0900720288bced703b8"), looks := true }, kinds := [], alts := [], laidByText := true, laidKinds := [.data, .data, .data, .sentinel, .sentinel], laidTests := true, laidLooks := .later }
def RulesAppliesUptoCardSaid : Prop := Claim7.holds Tryz.pinned (.plain (OpenSpec.upto rulesAppliesSpec)) rulesAppliesUptoCard

/-- THE SECOND FORM's CARD OF 'pileuplaw06.RulesPrints'. -/
def rulesPrintsUptoCard : Claim7 := { stood := { row := rulesPrintsUptoRow, standIns := [], harness := (true, "9ef67a4cb07571d798ed60e513598468ebe5a66f3455e0900720288bced703b8"), looks := true }, kinds := [], alts := [], laidByText := true, laidKinds := [.data, .data, .data, .sentinel, .sentinel], laidTests := true, laidLooks := .later }
def RulesPrintsUptoCardSaid : Prop := Claim7.holds Tryz.pinned (.plain (OpenSpec.upto rulesPrintsSpec)) rulesPrintsUptoCard

/-- THE SECOND FORM's CARD OF 'pileuplaw06.RulesBack'. -/
def rulesBackUptoCard : Claim7 := { stood := { row := rulesBackUptoRow, standIns := [], harness := (true, "9ef67a4cb07571d798ed60e513598468ebe5a66f3455e0900720288bced703b8"), looks := true }, kinds := [], alts := [], laidByText := true, laidKinds := [.data, .data, .data, .sentinel, .sentinel], laidTests := true, laidLooks := .later }
def RulesBackUptoCardSaid : Prop := Claim7.holds Tryz.pinned (.plain (OpenSpec.upto rulesBackSpec)) rulesBackUptoCard

/-- THE SECOND FORM's CARD OF 'pileuplaw06.RulesDiffers'. -/
def rulesDiffersUptoCard : Claim7 := { stood := { row := rulesDiffersUptoRow, standIns := [], harness := (true, "9ef67a4cb07571d798ed60e513598468ebe5a66f3455e0900720288bced703b8"), looks := true }, kinds := [], alts := [], laidByText := true, laidKinds := [.data, .data, .data, .sentinel, .sentinel], laidTests := true, laidLooks := .later }
def RulesDiffersUptoCardSaid : Prop := Claim7.holds Tryz.pinned (.plain (OpenSpec.upto rulesDiffersSpec)) rulesDiffersUptoCard

/-- THE SECOND FORM's CARD OF 'pileuplaw06.RulesShadows'. -/
def rulesShadowsUptoCard : Claim7 := { stood := { row := rulesShadowsUptoRow, standIns := [], harness := (true, "9ef67a4cb07571d798ed60e513598468ebe5a66f3455e0900720288bced703b8"), looks := true }, kinds := [], alts := [], laidByText := true, laidKinds := [.data, .data, .data, .sentinel, .sentinel], laidTests := true, laidLooks := .later }
def RulesShadowsUptoCardSaid : Prop := Claim7.holds Tryz.pinned (.plain (OpenSpec.upto rulesShadowsSpec)) rulesShadowsUptoCard

/-- THE SECOND FORM's CARD OF 'pileuplaw06.RulesClashes'. -/
def rulesClashesUptoCard : Claim7 := { stood := { row := rulesClashesUptoRow, standIns := [], harness := (true, "9ef67a4cb07571d798ed60e513598468ebe5a66f3455e0900720288bced703b8"), looks := true }, kinds := [], alts := [], laidByText := true, laidKinds := [.data, .data, .data, .sentinel, .sentinel], laidTests := true, laidLooks := .later }
def RulesClashesUptoCardSaid : Prop := Claim7.holds Tryz.pinned (.plain (OpenSpec.upto rulesClashesSpec)) rulesClashesUptoCard

/-- THE SECOND FORM's CARD OF 'pileuplaw06.RulesGapless'. -/
def rulesGaplessUptoCard : Claim7 := { stood := { row := rulesGaplessUptoRow, standIns := [], harness := (true, "9ef67a4cb07571d798ed60e513598468ebe5a66f3455e0900720288bced703b8"), looks := true }, kinds := [], alts := [], laidByText := true, laidKinds := [.data, .data, .data, .sentinel, .sentinel], laidTests := true, laidLooks := .later }
def RulesGaplessUptoCardSaid : Prop := Claim7.holds Tryz.pinned (.plain (OpenSpec.upto rulesGaplessSpec)) rulesGaplessUptoCard

/-- THE SECOND FORM's CARD OF 'pileuplaw06.RulesEqual'. -/
def rulesEqualUptoCard : Claim7 := { stood := { row := rulesEqualUptoRow, standIns := [], harness := (true, "9ef67a4cb07571d798ed60e513598468ebe5a66f3455e0900720288bced703b8"), looks := true }, kinds := [], alts := [], laidByText := true, laidKinds := [.data, .data, .data, .sentinel, .sentinel], laidTests := true, laidLooks := .later }
def RulesEqualUptoCardSaid : Prop := Claim7.holds Tryz.pinned (.plain (OpenSpec.upto rulesEqualSpec)) rulesEqualUptoCard

/-- THE SECOND FORM's CARD OF 'pileuplaw06.RulesGaps'. -/
def rulesGapsUptoCard : Claim7 := { stood := { row := rulesGapsUptoRow, standIns := [], harness := (true, "9ef67a4cb07571d798ed60e513598468ebe5a66f3455e0900720288bced703b8"), looks := true }, kinds := [], alts := [], laidByText := true, laidKinds := [.data, .data, .data, .sentinel, .sentinel], laidTests := true, laidLooks := .later }
def RulesGapsUptoCardSaid : Prop := Claim7.holds Tryz.pinned (.plain (OpenSpec.upto rulesGapsSpec)) rulesGapsUptoCard

/-- THE SECOND FORM's CARD OF 'pileuplaw06.RulesChecks'. -/
def rulesChecksUptoCard : Claim7 := { stood := { row := rulesChecksUptoRow, standIns := [], harness := (true, "9ef67a4cb07571d798ed60e513598468ebe5a66f3455e0900720288bced703b8"), looks := true }, kinds := [], alts := [], laidByText := true, laidKinds := [.data, .data, .data, .sentinel, .sentinel], laidTests := true, laidLooks := .later }
def RulesChecksUptoCardSaid : Prop := Claim7.holds Tryz.pinned (.plain (OpenSpec.upto rulesChecksSpec)) rulesChecksUptoCard

/-- THE SECOND FORM's CARD OF 'pileuplaw06.RulesTypes'. -/
def rulesTypesUptoCard : Claim7 := { stood := { row := rulesTypesUptoRow, standIns := [], harness := (true, "9ef67a4cb07571d798ed60e513598468ebe5a66f3455e0900720288bced703b8"), looks := true }, kinds := [], alts := [], laidByText := true, laidKinds := [.data, .data, .data, .sentinel, .sentinel], laidTests := true, laidLooks := .later }
def RulesTypesUptoCardSaid : Prop := Claim7.holds Tryz.pinned (.plain (OpenSpec.upto rulesTypesSpec)) rulesTypesUptoCard

/-- THE SECOND FORM's CARD OF 'pileuplaw06.RulesShort'. -/
def rulesShortUptoCard : Claim7 := { stood := { row := rulesShortUptoRow, standIns := [], harness := (true, "9ef67a4cb07571d798ed60e513598468ebe5a66f3455e0900720288bced703b8"), looks := true }, kinds := [], alts := [], laidByText := true, laidKinds := [.data, .data, .data, .sentinel, .sentinel], laidTests := true, laidLooks := .later }
def RulesShortUptoCardSaid : Prop := Claim7.holds Tryz.pinned (.plain (OpenSpec.upto rulesShortSpec)) rulesShortUptoCard
end Rows
end Go.Proofs.YtaihlcdkcampbaaGreatDoor
