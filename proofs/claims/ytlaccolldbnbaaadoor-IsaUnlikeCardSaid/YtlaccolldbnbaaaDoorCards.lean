/-
  DERIVED. GIVEN WITH THE SEED: THE CARDS: each row of YtlaccolldbnbaaaDoorRows.lean that lists a variable, with what it lists TIED to the program's text (the seventh form; the later family's looks); each row that meets fmt, with fmt's text TOLD by the authors' own Lean function (tested against real Go, not proved from fmt's source: count such statements apart). THE CARD IS WHAT COUNTS. Prove the row's statement (the work); the ties are given (YtlaccolldbnbaaaDoorTie.lean); close each card by the builder's one call (the guide's Derived/Test/ToyasCard.lean, 'card_holds'). Laid BY PROGRAM, IN A SANDBOX (cutbox-door.mjs). By AI agents, Wed Nov 11 2026. No macro, syntax, notation, axiom, sorry.
-/
import Derived.Test.YtlaccolldbnbaaaDoorRows
import GoSem.ClaimSeven
namespace Go.Proofs.YtlaccolldbnbaaaDoor
namespace Rows

/-- THE TIED CARD OF 'mortiselaw2.IsaEncodes'. -/
def isaEncodesCard : Claim7 := { stood := { row := isaEncodesRow, standIns := [], harness := (true, "ce63774d4f41856a13726c5ac646643abb872b877df3f871d3df68e71974c151"), looks := false }, kinds := [], alts := [], laidByText := true, laidKinds := [.data, .data, .data], laidTests := true, laidLooks := .later }
def IsaEncodesCardSaid : Prop := Claim7.holds Tryd.pinned (.plain (OpenSpec.ofChange isaEncodesSpec)) isaEncodesCard

/-- THE TIED CARD OF 'mortiselaw2.IsaTexts'. -/
def isaTextsCard : Claim7 := { stood := { row := isaTextsRow, standIns := [], harness := (true, "ce63774d4f41856a13726c5ac646643abb872b877df3f871d3df68e71974c151"), looks := false }, kinds := [], alts := [], laidByText := true, laidKinds := [.data, .data, .data], laidTests := true, laidLooks := .later }
def IsaTextsCardSaid : Prop := Claim7.holds Tryd.pinned (.plain (OpenSpec.ofChange isaTextsSpec)) isaTextsCard

/-- THE TIED CARD OF 'mortiselaw2.IsaUnlike'. -/
def isaUnlikeCard : Claim7 := { stood := { row := isaUnlikeRow, standIns := [], harness := (true, "ce63774d4f41856a13726c5ac646643abb872b877df3f871d3df68e71974c151"), looks := false }, kinds := [], alts := [], laidByText := true, laidKinds := [.data, .data, .data], laidTests := true, laidLooks := .later }
def IsaUnlikeCardSaid : Prop := Claim7.holds Tryd.pinned (.plain (OpenSpec.ofChange isaUnlikeSpec)) isaUnlikeCard

/-- THE TIED CARD OF 'mortiselaw2.IsaUses'. -/
def isaUsesCard : Claim7 := { stood := { row := isaUsesRow, standIns := [], harness := (true, "ce63774d4f41856a13726c5ac646643abb872b877df3f871d3df68e71974c151"), looks := false }, kinds := [], alts := [], laidByText := true, laidKinds := [.data, .data, .data], laidTests := true, laidLooks := .later }
def IsaUsesCardSaid : Prop := Claim7.holds Tryd.pinned (.plain (OpenSpec.ofChange isaUsesSpec)) isaUsesCard

/-- THE TIED CARD OF 'mortiselaw2.IsaDecodes'. -/
def isaDecodesCard : Claim7 := { stood := { row := isaDecodesRow, standIns := [], harness := (true, "ce63774d4f41856a13726c5ac646643abb872b877df3f871d3df68e71974c151"), looks := false }, kinds := [], alts := [], laidByText := true, laidKinds := [.data, .data, .data], laidTests := true, laidLooks := .later }
def IsaDecodesCardSaid : Prop := Claim7.holds Tryd.pinned (.plain (OpenSpec.ofChange isaDecodesSpec)) isaDecodesCard

/-- THE TIED CARD OF 'mortiselaw2.IsaBack'. -/
def isaBackCard : Claim7 := { stood := { row := isaBackRow, standIns := [], harness := (true, "ce63774d4f41856a13726c5ac646643abb872b877df3f871d3df68e71974c151"), looks := false }, kinds := [], alts := [], laidByText := true, laidKinds := [.data, .data, .data], laidTests := true, laidLooks := .later }
def IsaBackCardSaid : Prop := Claim7.holds Tryd.pinned (.plain (OpenSpec.ofChange isaBackSpec)) isaBackCard

/-- THE TIED CARD OF 'mortiselaw2.IsaWords'. -/
def isaWordsCard : Claim7 := { stood := { row := isaWordsRow, standIns := [], harness := (true, "ce63774d4f41856a13726c5ac646643abb872b877df3f871d3df68e71974c151"), looks := false }, kinds := [], alts := [], laidByText := true, laidKinds := [.data, .data, .data], laidTests := true, laidLooks := .later }
def IsaWordsCardSaid : Prop := Claim7.holds Tryd.pinned (.plain (OpenSpec.ofChange isaWordsSpec)) isaWordsCard

/-- THE SECOND FORM's CARD OF 'mortiselaw2.IsaEncodes'. -/
def isaEncodesUptoCard : Claim7 := { stood := { row := isaEncodesUptoRow, standIns := [], harness := (true, "ce63774d4f41856a13726c5ac646643abb872b877df3f871d3df68e71974c151"), looks := false }, kinds := [], alts := [], laidByText := true, laidKinds := [.data, .data, .data], laidTests := true, laidLooks := .later }
def IsaEncodesUptoCardSaid : Prop := Claim7.holds Tryd.pinned (.plain (OpenSpec.upto isaEncodesSpec)) isaEncodesUptoCard

/-- THE SECOND FORM's CARD OF 'mortiselaw2.IsaTexts'. -/
def isaTextsUptoCard : Claim7 := { stood := { row := isaTextsUptoRow, standIns := [], harness := (true, "ce63774d4f41856a13726c5ac646643abb872b877df3f871d3df68e71974c151"), looks := false }, kinds := [], alts := [], laidByText := true, laidKinds := [.data, .data, .data], laidTests := true, laidLooks := .later }
def IsaTextsUptoCardSaid : Prop := Claim7.holds Tryd.pinned (.plain (OpenSpec.upto isaTextsSpec)) isaTextsUptoCard

/-- THE SECOND FORM's CARD OF 'mortiselaw2.IsaUnlike'. -/
def isaUnlikeUptoCard : Claim7 := { stood := { row := isaUnlikeUptoRow, standIns := [], harness := (true, "ce63774d4f41856a13726c5ac646643abb872b877df3f871d3df68e71974c151"), looks := false }, kinds := [], alts := [], laidByText := true, laidKinds := [.data, .data, .data], laidTests := true, laidLooks := .later }
def IsaUnlikeUptoCardSaid : Prop := Claim7.holds Tryd.pinned (.plain (OpenSpec.upto isaUnlikeSpec)) isaUnlikeUptoCard

/-- THE SECOND FORM's CARD OF 'mortiselaw2.IsaUses'. -/
def isaUsesUptoCard : Claim7 := { stood := { row := isaUsesUptoRow, standIns := [], harness := (true, "ce63774d4f41856a13726c5ac646643abb872b877df3f871d3df68e71974c151"), looks := false }, kinds := [], alts := [], laidByText := true, laidKinds := [.data, .data, .data], laidTests := true, laidLooks := .later }
def IsaUsesUptoCardSaid : Prop := Claim7.holds Tryd.pinned (.plain (OpenSpec.upto isaUsesSpec)) isaUsesUptoCard

/-- THE SECOND FORM's CARD OF 'mortiselaw2.IsaDecodes'. -/
def isaDecodesUptoCard : Claim7 := { stood := { row := isaDecodesUptoRow, standIns := [], harness := (true, "ce63774d4f41856a13726c5ac646643abb872b877df3f871d3df68e71974c151"), looks := false }, kinds := [], alts := [], laidByText := true, laidKinds := [.data, .data, .data], laidTests := true, laidLooks := .later }
def IsaDecodesUptoCardSaid : Prop := Claim7.holds Tryd.pinned (.plain (OpenSpec.upto isaDecodesSpec)) isaDecodesUptoCard

/-- THE SECOND FORM's CARD OF 'mortiselaw2.IsaBack'. -/
def isaBackUptoCard : Claim7 := { stood := { row := isaBackUptoRow, standIns := [], harness := (true, "ce63774d4f41856a13726c5ac646643abb872b877df3f871d3df68e71974c151"), looks := false }, kinds := [], alts := [], laidByText := true, laidKinds := [.data, .data, .data], laidTests := true, laidLooks := .later }
def IsaBackUptoCardSaid : Prop := Claim7.holds Tryd.pinned (.plain (OpenSpec.upto isaBackSpec)) isaBackUptoCard

/-- THE SECOND FORM's CARD OF 'mortiselaw2.IsaWords'. -/
def isaWordsUptoCard : Claim7 := { stood := { row := isaWordsUptoRow, standIns := [], harness := (true, "ce63774d4f41856a13726c5ac646643abb872b877df3f871d3df68e71974c151"), looks := false }, kinds := [], alts := [], laidByText := true, laidKinds := [.data, .data, .data], laidTests := true, laidLooks := .later }
def IsaWordsUptoCardSaid : Prop := Claim7.holds Tryd.pinned (.plain (OpenSpec.upto isaWordsSpec)) isaWordsUptoCard
end Rows
end Go.Proofs.YtlaccolldbnbaaaDoor
