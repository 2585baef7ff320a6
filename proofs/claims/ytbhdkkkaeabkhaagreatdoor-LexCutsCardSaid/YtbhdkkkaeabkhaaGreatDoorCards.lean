/-
  DERIVED. GIVEN WITH THE SEED: THE CARDS: each row of YtbhdkkkaeabkhaaGreatDoorRows.lean that lists a variable, with what it lists TIED to the program's text (the seventh form; the later family's looks); each row that meets fmt, with fmt's text TOLD by the authors' own Lean function (tested against real Go, not proved from fmt's source: count such statements apart). THE CARD IS WHAT COUNTS. Prove the row's statement (the work); the ties are given (YtbhdkkkaeabkhaaGreatDoorTie.lean); close each card by the builder's one call (the guide's Derived/Test/ToyasCard.lean, 'card_holds'). Laid BY PROGRAM, IN A SANDBOX (cutbox-door.mjs). By AI agents, Wed Nov 11 2026. No macro, syntax, notation, axiom, sorry.
-/
import Derived.Test.YtbhdkkkaeabkhaaGreatDoorRows
import GoSem.ClaimSeven
namespace Go.Proofs.YtbhdkkkaeabkhaaGreatDoor
namespace Rows

/-- THE TIED CARD OF 'coillaw1.LexRuns'. -/
def lexRunsCard : Claim7 := { stood := { row := lexRunsRow, standIns := [], harness := (true, "fe350896ebded9bdef9f7e72be8b54f2585c1617bf09ba1dc8155aeea9e60099"), looks := true }, kinds := [], alts := [], laidByText := true, laidKinds := [.data, .data, .data, .handle, .sentinel, .sentinel, .listed, .data], laidTests := true, laidLooks := .later }
def LexRunsCardSaid : Prop := Claim7.holds Tryz.pinned (.plain (OpenSpec.ofChange lexRunsSpec)) lexRunsCard

/-- THE TIED CARD OF 'coillaw1.LexCuts'. -/
def lexCutsCard : Claim7 := { stood := { row := lexCutsRow, standIns := [], harness := (true, "fe350896ebded9bdef9f7e72be8b54f2585c1617bf09ba1dc8155aeea9e60099"), looks := true }, kinds := [], alts := [], laidByText := true, laidKinds := [.data, .data, .data, .handle, .sentinel, .sentinel, .listed, .data], laidTests := true, laidLooks := .later }
def LexCutsCardSaid : Prop := Claim7.holds Tryz.pinned (.plain (OpenSpec.ofChange lexCutsSpec)) lexCutsCard

/-- THE TIED CARD OF 'coillaw1.LexJoins'. -/
def lexJoinsCard : Claim7 := { stood := { row := lexJoinsRow, standIns := [], harness := (true, "fe350896ebded9bdef9f7e72be8b54f2585c1617bf09ba1dc8155aeea9e60099"), looks := true }, kinds := [], alts := [], laidByText := true, laidKinds := [.data, .data, .data, .handle, .sentinel, .sentinel, .listed, .data], laidTests := true, laidLooks := .later }
def LexJoinsCardSaid : Prop := Claim7.holds Tryz.pinned (.plain (OpenSpec.ofChange lexJoinsSpec)) lexJoinsCard

/-- THE TIED CARD OF 'coillaw1.LexBack'. -/
def lexBackCard : Claim7 := { stood := { row := lexBackRow, standIns := [], harness := (true, "fe350896ebded9bdef9f7e72be8b54f2585c1617bf09ba1dc8155aeea9e60099"), looks := true }, kinds := [], alts := [], laidByText := true, laidKinds := [.data, .data, .data, .handle, .sentinel, .sentinel, .listed, .data], laidTests := true, laidLooks := .later }
def LexBackCardSaid : Prop := Claim7.holds Tryz.pinned (.plain (OpenSpec.ofChange lexBackSpec)) lexBackCard

/-- THE TIED CARD OF 'coillaw1.LexBlanks'. -/
def lexBlanksCard : Claim7 := { stood := { row := lexBlanksRow, standIns := [], harness := (true, "fe350896ebded9bdef9f7e72be8b54f2585c1617bf09ba1dc8155aeea9e60099"), looks := true }, kinds := [], alts := [], laidByText := true, laidKinds := [.data, .data, .data, .handle, .sentinel, .sentinel, .listed, .data], laidTests := true, laidLooks := .later }
def LexBlanksCardSaid : Prop := Claim7.holds Tryz.pinned (.plain (OpenSpec.ofChange lexBlanksSpec)) lexBlanksCard

/-- THE TIED CARD OF 'coillaw1.LexHead'. -/
def lexHeadCard : Claim7 := { stood := { row := lexHeadRow, standIns := [], harness := (true, "fe350896ebded9bdef9f7e72be8b54f2585c1617bf09ba1dc8155aeea9e60099"), looks := true }, kinds := [], alts := [], laidByText := true, laidKinds := [.data, .data, .data, .handle, .sentinel, .sentinel, .listed, .data], laidTests := true, laidLooks := .later }
def LexHeadCardSaid : Prop := Claim7.holds Tryz.pinned (.plain (OpenSpec.ofChange lexHeadSpec)) lexHeadCard

/-- THE TIED CARD OF 'coillaw1.LexLimits'. -/
def lexLimitsCard : Claim7 := { stood := { row := lexLimitsRow, standIns := [], harness := (true, "fe350896ebded9bdef9f7e72be8b54f2585c1617bf09ba1dc8155aeea9e60099"), looks := true }, kinds := [], alts := [], laidByText := true, laidKinds := [.data, .data, .data, .handle, .sentinel, .sentinel, .listed, .data], laidTests := true, laidLooks := .later }
def LexLimitsCardSaid : Prop := Claim7.holds Tryz.pinned (.plain (OpenSpec.ofChange lexLimitsSpec)) lexLimitsCard

/-- THE TIED CARD OF 'coillaw1.LexPlaces'. -/
def lexPlacesCard : Claim7 := { stood := { row := lexPlacesRow, standIns := [], harness := (true, "fe350896ebded9bdef9f7e72be8b54f2585c1617bf09ba1dc8155aeea9e60099"), looks := true }, kinds := [], alts := [], laidByText := true, laidKinds := [.data, .data, .data, .handle, .sentinel, .sentinel, .listed, .data], laidTests := true, laidLooks := .later }
def LexPlacesCardSaid : Prop := Claim7.holds Tryz.pinned (.plain (OpenSpec.ofChange lexPlacesSpec)) lexPlacesCard

/-- THE TIED CARD OF 'coillaw1.LexWords'. -/
def lexWordsCard : Claim7 := { stood := { row := lexWordsRow, standIns := [], harness := (true, "fe350896ebded9bdef9f7e72be8b54f2585c1617bf09ba1dc8155aeea9e60099"), looks := true }, kinds := [], alts := [], laidByText := true, laidKinds := [.data, .data, .data, .handle, .sentinel, .sentinel, .listed, .data], laidTests := true, laidLooks := .later }
def LexWordsCardSaid : Prop := Claim7.holds Tryz.pinned (.plain (OpenSpec.ofChange lexWordsSpec)) lexWordsCard

/-- THE TIED CARD OF 'coillaw1.LexNumbers'. -/
def lexNumbersCard : Claim7 := { stood := { row := lexNumbersRow, standIns := [], harness := (true, "fe350896ebded9bdef9f7e72be8b54f2585c1617bf09ba1dc8155aeea9e60099"), looks := true }, kinds := [], alts := [], laidByText := true, laidKinds := [.data, .data, .data, .handle, .sentinel, .sentinel, .listed, .data], laidTests := true, laidLooks := .later }
def LexNumbersCardSaid : Prop := Claim7.holds Tryz.pinned (.plain (OpenSpec.ofChange lexNumbersSpec)) lexNumbersCard

/-- THE TIED CARD OF 'coillaw1.LexTexts'. -/
def lexTextsCard : Claim7 := { stood := { row := lexTextsRow, standIns := [], harness := (true, "fe350896ebded9bdef9f7e72be8b54f2585c1617bf09ba1dc8155aeea9e60099"), looks := true }, kinds := [], alts := [], laidByText := true, laidKinds := [.data, .data, .data, .handle, .sentinel, .sentinel, .listed, .data], laidTests := true, laidLooks := .later }
def LexTextsCardSaid : Prop := Claim7.holds Tryz.pinned (.plain (OpenSpec.ofChange lexTextsSpec)) lexTextsCard

/-- THE SECOND FORM's CARD OF 'coillaw1.LexRuns'. -/
def lexRunsUptoCard : Claim7 := { stood := { row := lexRunsUptoRow, standIns := [], harness := (true, "fe350896ebded9bdef9f7e72be8b54f2585c1617bf09ba1dc8155aeea9e60099"), looks := true }, kinds := [], alts := [], laidByText := true, laidKinds := [.data, .data, .data, .handle, .sentinel, .sentinel, .listed, .data], laidTests := true, laidLooks := .later }
def LexRunsUptoCardSaid : Prop := Claim7.holds Tryz.pinned (.plain (OpenSpec.upto lexRunsSpec)) lexRunsUptoCard

/-- THE SECOND FORM's CARD OF 'coillaw1.LexCuts'. -/
def lexCutsUptoCard : Claim7 := { stood := { row := lexCutsUptoRow, standIns := [], harness := (true, "fe350896ebded9bdef9f7e72be8b54f2585c1617bf09ba1dc8155aeea9e60099"), looks := true }, kinds := [], alts := [], laidByText := true, laidKinds := [.data, .data, .data, .handle, .sentinel, .sentinel, .listed, .data], laidTests := true, laidLooks := .later }
def LexCutsUptoCardSaid : Prop := Claim7.holds Tryz.pinned (.plain (OpenSpec.upto lexCutsSpec)) lexCutsUptoCard

/-- THE SECOND FORM's CARD OF 'coillaw1.LexJoins'. -/
def lexJoinsUptoCard : Claim7 := { stood := { row := lexJoinsUptoRow, standIns := [], harness := (true, "fe350896ebded9bdef9f7e72be8b54f2585c1617bf09ba1dc8155aeea9e60099"), looks := true }, kinds := [], alts := [], laidByText := true, laidKinds := [.data, .data, .data, .handle, .sentinel, .sentinel, .listed, .data], laidTests := true, laidLooks := .later }
def LexJoinsUptoCardSaid : Prop := Claim7.holds Tryz.pinned (.plain (OpenSpec.upto lexJoinsSpec)) lexJoinsUptoCard

/-- THE SECOND FORM's CARD OF 'coillaw1.LexBack'. -/
def lexBackUptoCard : Claim7 := { stood := { row := lexBackUptoRow, standIns := [], harness := (true, "fe350896ebded9bdef9f7e72be8b54f2585c1617bf09ba1dc8155aeea9e60099"), looks := true }, kinds := [], alts := [], laidByText := true, laidKinds := [.data, .data, .data, .handle, .sentinel, .sentinel, .listed, .data], laidTests := true, laidLooks := .later }
def LexBackUptoCardSaid : Prop := Claim7.holds Tryz.pinned (.plain (OpenSpec.upto lexBackSpec)) lexBackUptoCard

/-- THE SECOND FORM's CARD OF 'coillaw1.LexBlanks'. -/
def lexBlanksUptoCard : Claim7 := { stood := { row := lexBlanksUptoRow, standIns := [], harness := (true, "fe350896ebded9bdef9f7e72be8b54f2585c1617bf09ba1dc8155aeea9e60099"), looks := true }, kinds := [], alts := [], laidByText := true, laidKinds := [.data, .data, .data, .handle, .sentinel, .sentinel, .listed, .data], laidTests := true, laidLooks := .later }
def LexBlanksUptoCardSaid : Prop := Claim7.holds Tryz.pinned (.plain (OpenSpec.upto lexBlanksSpec)) lexBlanksUptoCard

/-- THE SECOND FORM's CARD OF 'coillaw1.LexHead'. -/
def lexHeadUptoCard : Claim7 := { stood := { row := lexHeadUptoRow, standIns := [], harness := (true, "fe350896ebded9bdef9f7e72be8b54f2585c1617bf09ba1dc8155aeea9e60099"), looks := true }, kinds := [], alts := [], laidByText := true, laidKinds := [.data, .data, .data, .handle, .sentinel, .sentinel, .listed, .data], laidTests := true, laidLooks := .later }
def LexHeadUptoCardSaid : Prop := Claim7.holds Tryz.pinned (.plain (OpenSpec.upto lexHeadSpec)) lexHeadUptoCard

/-- THE SECOND FORM's CARD OF 'coillaw1.LexLimits'. -/
def lexLimitsUptoCard : Claim7 := { stood := { row := lexLimitsUptoRow, standIns := [], harness := (true, "fe350896ebded9bdef9f7e72be8b54f2585c1617bf09ba1dc8155aeea9e60099"), looks := true }, kinds := [], alts := [], laidByText := true, laidKinds := [.data, .data, .data, .handle, .sentinel, .sentinel, .listed, .data], laidTests := true, laidLooks := .later }
def LexLimitsUptoCardSaid : Prop := Claim7.holds Tryz.pinned (.plain (OpenSpec.upto lexLimitsSpec)) lexLimitsUptoCard

/-- THE SECOND FORM's CARD OF 'coillaw1.LexPlaces'. -/
def lexPlacesUptoCard : Claim7 := { stood := { row := lexPlacesUptoRow, standIns := [], harness := (true, "fe350896ebded9bdef9f7e72be8b54f2585c1617bf09ba1dc8155aeea9e60099"), looks := true }, kinds := [], alts := [], laidByText := true, laidKinds := [.data, .data, .data, .handle, .sentinel, .sentinel, .listed, .data], laidTests := true, laidLooks := .later }
def LexPlacesUptoCardSaid : Prop := Claim7.holds Tryz.pinned (.plain (OpenSpec.upto lexPlacesSpec)) lexPlacesUptoCard

/-- THE SECOND FORM's CARD OF 'coillaw1.LexWords'. -/
def lexWordsUptoCard : Claim7 := { stood := { row := lexWordsUptoRow, standIns := [], harness := (true, "fe350896ebded9bdef9f7e72be8b54f2585c1617bf09ba1dc8155aeea9e60099"), looks := true }, kinds := [], alts := [], laidByText := true, laidKinds := [.data, .data, .data, .handle, .sentinel, .sentinel, .listed, .data], laidTests := true, laidLooks := .later }
def LexWordsUptoCardSaid : Prop := Claim7.holds Tryz.pinned (.plain (OpenSpec.upto lexWordsSpec)) lexWordsUptoCard

/-- THE SECOND FORM's CARD OF 'coillaw1.LexNumbers'. -/
def lexNumbersUptoCard : Claim7 := { stood := { row := lexNumbersUptoRow, standIns := [], harness := (true, "fe350896ebded9bdef9f7e72be8b54f2585c1617bf09ba1dc8155aeea9e60099"), looks := true }, kinds := [], alts := [], laidByText := true, laidKinds := [.data, .data, .data, .handle, .sentinel, .sentinel, .listed, .data], laidTests := true, laidLooks := .later }
def LexNumbersUptoCardSaid : Prop := Claim7.holds Tryz.pinned (.plain (OpenSpec.upto lexNumbersSpec)) lexNumbersUptoCard

/-- THE SECOND FORM's CARD OF 'coillaw1.LexTexts'. -/
def lexTextsUptoCard : Claim7 := { stood := { row := lexTextsUptoRow, standIns := [], harness := (true, "fe350896ebded9bdef9f7e72be8b54f2585c1617bf09ba1dc8155aeea9e60099"), looks := true }, kinds := [], alts := [], laidByText := true, laidKinds := [.data, .data, .data, .handle, .sentinel, .sentinel, .listed, .data], laidTests := true, laidLooks := .later }
def LexTextsUptoCardSaid : Prop := Claim7.holds Tryz.pinned (.plain (OpenSpec.upto lexTextsSpec)) lexTextsUptoCard
end Rows
end Go.Proofs.YtbhdkkkaeabkhaaGreatDoor
