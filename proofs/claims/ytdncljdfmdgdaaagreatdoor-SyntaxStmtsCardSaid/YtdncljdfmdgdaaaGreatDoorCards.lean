/-
  DERIVED. GIVEN WITH THE SEED: THE CARDS: each row of YtdncljdfmdgdaaaGreatDoorRows.lean that lists a variable, with what it lists TIED to the program's text (the seventh form; the later family's looks); each row that meets fmt, with fmt's text TOLD by the authors' own Lean function (tested against real Go, not proved from fmt's source: count such statements apart). THE CARD IS WHAT COUNTS. Prove the row's statement (the work); the ties are given (YtdncljdfmdgdaaaGreatDoorTie.lean); close each card by the builder's one call (the guide's Derived/Test/ToyasCard.lean, 'card_holds'). Laid BY PROGRAM, IN A SANDBOX (cutbox-door.mjs). By AI agents, Wed Nov 11 2026. No macro, syntax, notation, axiom, sorry.
-/
import Derived.Test.YtdncljdfmdgdaaaGreatDoorRows
import GoSem.ClaimSeven
namespace Go.Proofs.YtdncljdfmdgdaaaGreatDoor
namespace Rows

/-- THE TIED CARD OF 'coillaw2.SyntaxRuns'. -/
def syntaxRunsCard : Claim7 := { stood := { row := syntaxRunsRow, standIns := [], harness := (true, "e4a53ab273f9f8dcd4bd76fa0e77b58e4b3e36a148cc2e279a9c0c20b8a72c19"), looks := true }, kinds := [], alts := [], laidByText := true, laidKinds := [.data, .data, .data, .sentinel, .sentinel, .listed, .data], laidTests := true, laidLooks := .later }
def SyntaxRunsCardSaid : Prop := Claim7.holds Tryz.pinned (.plain (OpenSpec.ofChange syntaxRunsSpec)) syntaxRunsCard

/-- THE TIED CARD OF 'coillaw2.SyntaxTypes'. -/
def syntaxTypesCard : Claim7 := { stood := { row := syntaxTypesRow, standIns := [], harness := (true, "e4a53ab273f9f8dcd4bd76fa0e77b58e4b3e36a148cc2e279a9c0c20b8a72c19"), looks := true }, kinds := [], alts := [], laidByText := true, laidKinds := [.data, .data, .data, .sentinel, .sentinel, .listed, .data], laidTests := true, laidLooks := .later }
def SyntaxTypesCardSaid : Prop := Claim7.holds Tryz.pinned (.plain (OpenSpec.ofChange syntaxTypesSpec)) syntaxTypesCard

/-- THE TIED CARD OF 'coillaw2.SyntaxExprs'. -/
def syntaxExprsCard : Claim7 := { stood := { row := syntaxExprsRow, standIns := [], harness := (true, "e4a53ab273f9f8dcd4bd76fa0e77b58e4b3e36a148cc2e279a9c0c20b8a72c19"), looks := true }, kinds := [], alts := [], laidByText := true, laidKinds := [.data, .data, .data, .sentinel, .sentinel, .listed, .data], laidTests := true, laidLooks := .later }
def SyntaxExprsCardSaid : Prop := Claim7.holds Tryz.pinned (.plain (OpenSpec.ofChange syntaxExprsSpec)) syntaxExprsCard

/-- THE TIED CARD OF 'coillaw2.SyntaxStmts'. -/
def syntaxStmtsCard : Claim7 := { stood := { row := syntaxStmtsRow, standIns := [], harness := (true, "e4a53ab273f9f8dcd4bd76fa0e77b58e4b3e36a148cc2e279a9c0c20b8a72c19"), looks := true }, kinds := [], alts := [], laidByText := true, laidKinds := [.data, .data, .data, .sentinel, .sentinel, .listed, .data], laidTests := true, laidLooks := .later }
def SyntaxStmtsCardSaid : Prop := Claim7.holds Tryz.pinned (.plain (OpenSpec.ofChange syntaxStmtsSpec)) syntaxStmtsCard

/-- THE TIED CARD OF 'coillaw2.SyntaxDeep'. -/
def syntaxDeepCard : Claim7 := { stood := { row := syntaxDeepRow, standIns := [], harness := (true, "e4a53ab273f9f8dcd4bd76fa0e77b58e4b3e36a148cc2e279a9c0c20b8a72c19"), looks := true }, kinds := [], alts := [], laidByText := true, laidKinds := [.data, .data, .data, .sentinel, .sentinel, .listed, .data], laidTests := true, laidLooks := .later }
def SyntaxDeepCardSaid : Prop := Claim7.holds Tryz.pinned (.plain (OpenSpec.ofChange syntaxDeepSpec)) syntaxDeepCard

/-- THE TIED CARD OF 'coillaw2.SyntaxCounts'. -/
def syntaxCountsCard : Claim7 := { stood := { row := syntaxCountsRow, standIns := [], harness := (true, "e4a53ab273f9f8dcd4bd76fa0e77b58e4b3e36a148cc2e279a9c0c20b8a72c19"), looks := true }, kinds := [], alts := [], laidByText := true, laidKinds := [.data, .data, .data, .sentinel, .sentinel, .listed, .data], laidTests := true, laidLooks := .later }
def SyntaxCountsCardSaid : Prop := Claim7.holds Tryz.pinned (.plain (OpenSpec.ofChange syntaxCountsSpec)) syntaxCountsCard

/-- THE TIED CARD OF 'coillaw2.SyntaxNamed'. -/
def syntaxNamedCard : Claim7 := { stood := { row := syntaxNamedRow, standIns := [], harness := (true, "e4a53ab273f9f8dcd4bd76fa0e77b58e4b3e36a148cc2e279a9c0c20b8a72c19"), looks := true }, kinds := [], alts := [], laidByText := true, laidKinds := [.data, .data, .data, .sentinel, .sentinel, .listed, .data], laidTests := true, laidLooks := .later }
def SyntaxNamedCardSaid : Prop := Claim7.holds Tryz.pinned (.plain (OpenSpec.ofChange syntaxNamedSpec)) syntaxNamedCard

/-- THE TIED CARD OF 'coillaw2.SyntaxTokens'. -/
def syntaxTokensCard : Claim7 := { stood := { row := syntaxTokensRow, standIns := [], harness := (true, "e4a53ab273f9f8dcd4bd76fa0e77b58e4b3e36a148cc2e279a9c0c20b8a72c19"), looks := true }, kinds := [], alts := [], laidByText := true, laidKinds := [.data, .data, .data, .sentinel, .sentinel, .listed, .data], laidTests := true, laidLooks := .later }
def SyntaxTokensCardSaid : Prop := Claim7.holds Tryz.pinned (.plain (OpenSpec.ofChange syntaxTokensSpec)) syntaxTokensCard

/-- THE TIED CARD OF 'coillaw2.SyntaxPrograms'. -/
def syntaxProgramsCard : Claim7 := { stood := { row := syntaxProgramsRow, standIns := [], harness := (true, "e4a53ab273f9f8dcd4bd76fa0e77b58e4b3e36a148cc2e279a9c0c20b8a72c19"), looks := true }, kinds := [], alts := [], laidByText := true, laidKinds := [.data, .data, .data, .sentinel, .sentinel, .listed, .data], laidTests := true, laidLooks := .later }
def SyntaxProgramsCardSaid : Prop := Claim7.holds Tryz.pinned (.plain (OpenSpec.ofChange syntaxProgramsSpec)) syntaxProgramsCard

/-- THE SECOND FORM's CARD OF 'coillaw2.SyntaxRuns'. -/
def syntaxRunsUptoCard : Claim7 := { stood := { row := syntaxRunsUptoRow, standIns := [], harness := (true, "e4a53ab273f9f8dcd4bd76fa0e77b58e4b3e36a148cc2e279a9c0c20b8a72c19"), looks := true }, kinds := [], alts := [], laidByText := true, laidKinds := [.data, .data, .data, .sentinel, .sentinel, .listed, .data], laidTests := true, laidLooks := .later }
def SyntaxRunsUptoCardSaid : Prop := Claim7.holds Tryz.pinned (.plain (OpenSpec.upto syntaxRunsSpec)) syntaxRunsUptoCard

/-- THE SECOND FORM's CARD OF 'coillaw2.SyntaxTypes'. -/
def syntaxTypesUptoCard : Claim7 := { stood := { row := syntaxTypesUptoRow, standIns := [], harness := (true, "e4a53ab273f9f8dcd4bd76fa0e77b58e4b3e36a148cc2e279a9c0c20b8a72c19"), looks := true }, kinds := [], alts := [], laidByText := true, laidKinds := [.data, .data, .data, .sentinel, .sentinel, .listed, .data], laidTests := true, laidLooks := .later }
def SyntaxTypesUptoCardSaid : Prop := Claim7.holds Tryz.pinned (.plain (OpenSpec.upto syntaxTypesSpec)) syntaxTypesUptoCard

/-- THE SECOND FORM's CARD OF 'coillaw2.SyntaxExprs'. -/
def syntaxExprsUptoCard : Claim7 := { stood := { row := syntaxExprsUptoRow, standIns := [], harness := (true, "e4a53ab273f9f8dcd4bd76fa0e77b58e4b3e36a148cc2e279a9c0c20b8a72c19"), looks := true }, kinds := [], alts := [], laidByText := true, laidKinds := [.data, .data, .data, .sentinel, .sentinel, .listed, .data], laidTests := true, laidLooks := .later }
def SyntaxExprsUptoCardSaid : Prop := Claim7.holds Tryz.pinned (.plain (OpenSpec.upto syntaxExprsSpec)) syntaxExprsUptoCard

/-- THE SECOND FORM's CARD OF 'coillaw2.SyntaxStmts'. -/
def syntaxStmtsUptoCard : Claim7 := { stood := { row := syntaxStmtsUptoRow, standIns := [], harness := (true, "e4a53ab273f9f8dcd4bd76fa0e77b58e4b3e36a148cc2e279a9c0c20b8a72c19"), looks := true }, kinds := [], alts := [], laidByText := true, laidKinds := [.data, .data, .data, .sentinel, .sentinel, .listed, .data], laidTests := true, laidLooks := .later }
def SyntaxStmtsUptoCardSaid : Prop := Claim7.holds Tryz.pinned (.plain (OpenSpec.upto syntaxStmtsSpec)) syntaxStmtsUptoCard

/-- THE SECOND FORM's CARD OF 'coillaw2.SyntaxDeep'. -/
def syntaxDeepUptoCard : Claim7 := { stood := { row := syntaxDeepUptoRow, standIns := [], harness := (true, "e4a53ab273f9f8dcd4bd76fa0e77b58e4b3e36a148cc2e279a9c0c20b8a72c19"), looks := true }, kinds := [], alts := [], laidByText := true, laidKinds := [.data, .data, .data, .sentinel, .sentinel, .listed, .data], laidTests := true, laidLooks := .later }
def SyntaxDeepUptoCardSaid : Prop := Claim7.holds Tryz.pinned (.plain (OpenSpec.upto syntaxDeepSpec)) syntaxDeepUptoCard

/-- THE SECOND FORM's CARD OF 'coillaw2.SyntaxCounts'. -/
def syntaxCountsUptoCard : Claim7 := { stood := { row := syntaxCountsUptoRow, standIns := [], harness := (true, "e4a53ab273f9f8dcd4bd76fa0e77b58e4b3e36a148cc2e279a9c0c20b8a72c19"), looks := true }, kinds := [], alts := [], laidByText := true, laidKinds := [.data, .data, .data, .sentinel, .sentinel, .listed, .data], laidTests := true, laidLooks := .later }
def SyntaxCountsUptoCardSaid : Prop := Claim7.holds Tryz.pinned (.plain (OpenSpec.upto syntaxCountsSpec)) syntaxCountsUptoCard

/-- THE SECOND FORM's CARD OF 'coillaw2.SyntaxNamed'. -/
def syntaxNamedUptoCard : Claim7 := { stood := { row := syntaxNamedUptoRow, standIns := [], harness := (true, "e4a53ab273f9f8dcd4bd76fa0e77b58e4b3e36a148cc2e279a9c0c20b8a72c19"), looks := true }, kinds := [], alts := [], laidByText := true, laidKinds := [.data, .data, .data, .sentinel, .sentinel, .listed, .data], laidTests := true, laidLooks := .later }
def SyntaxNamedUptoCardSaid : Prop := Claim7.holds Tryz.pinned (.plain (OpenSpec.upto syntaxNamedSpec)) syntaxNamedUptoCard

/-- THE SECOND FORM's CARD OF 'coillaw2.SyntaxTokens'. -/
def syntaxTokensUptoCard : Claim7 := { stood := { row := syntaxTokensUptoRow, standIns := [], harness := (true, "e4a53ab273f9f8dcd4bd76fa0e77b58e4b3e36a148cc2e279a9c0c20b8a72c19"), looks := true }, kinds := [], alts := [], laidByText := true, laidKinds := [.data, .data, .data, .sentinel, .sentinel, .listed, .data], laidTests := true, laidLooks := .later }
def SyntaxTokensUptoCardSaid : Prop := Claim7.holds Tryz.pinned (.plain (OpenSpec.upto syntaxTokensSpec)) syntaxTokensUptoCard

/-- THE SECOND FORM's CARD OF 'coillaw2.SyntaxPrograms'. -/
def syntaxProgramsUptoCard : Claim7 := { stood := { row := syntaxProgramsUptoRow, standIns := [], harness := (true, "e4a53ab273f9f8dcd4bd76fa0e77b58e4b3e36a148cc2e279a9c0c20b8a72c19"), looks := true }, kinds := [], alts := [], laidByText := true, laidKinds := [.data, .data, .data, .sentinel, .sentinel, .listed, .data], laidTests := true, laidLooks := .later }
def SyntaxProgramsUptoCardSaid : Prop := Claim7.holds Tryz.pinned (.plain (OpenSpec.upto syntaxProgramsSpec)) syntaxProgramsUptoCard
end Rows
end Go.Proofs.YtdncljdfmdgdaaaGreatDoor
