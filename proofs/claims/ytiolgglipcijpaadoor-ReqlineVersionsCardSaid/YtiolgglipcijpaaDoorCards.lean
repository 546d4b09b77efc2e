/-
  DERIVED. GIVEN WITH THE SEED: THE CARDS: each row of YtiolgglipcijpaaDoorRows.lean that lists a variable, with what it lists TIED to the program's text (the seventh form; the later family's looks); each row that meets fmt, with fmt's text TOLD by the authors' own Lean function (tested against real Go, not proved from fmt's source: count such statements apart). THE CARD IS WHAT COUNTS. Prove the row's statement (the work); the ties are given (YtiolgglipcijpaaDoorTie.lean); close each card by the builder's one call (the guide's Derived/Test/ToyasCard.lean, 'card_holds'). Laid BY PROGRAM, IN A SANDBOX (cutbox-door.mjs). By AI agents, Wed Nov 11 2026. No macro, syntax, notation, axiom, sorry.
-/
import Derived.Test.YtiolgglipcijpaaDoorRows
import GoSem.ClaimSeven
namespace Go.Proofs.YtiolgglipcijpaaDoor
namespace Rows

/-- THE TIED CARD OF 'doorkeeperlaw10.ReqlineParses'. -/
def reqlineParsesCard : Claim7 := { stood := { row := reqlineParsesRow, standIns := [], harness := (true, "f415b36f0811a6a9ced6d804f445cc691c4a63a5c1f9b95cf1af1f7c828e66d2"), looks := true }, kinds := [], alts := [], laidByText := true, laidKinds := [.data, .handle, .widerDeep, .funcs, .pinned], laidTests := true, laidLooks := .later }
def ReqlineParsesCardSaid : Prop := Claim7.holds Tryd.pinned (.plain (OpenSpec.ofChange reqlineParsesSpec)) reqlineParsesCard

/-- THE TIED CARD OF 'doorkeeperlaw10.ReqlineTexts'. -/
def reqlineTextsCard : Claim7 := { stood := { row := reqlineTextsRow, standIns := [], harness := (true, "f415b36f0811a6a9ced6d804f445cc691c4a63a5c1f9b95cf1af1f7c828e66d2"), looks := true }, kinds := [], alts := [], laidByText := true, laidKinds := [.data, .handle, .widerDeep, .funcs, .pinned], laidTests := true, laidLooks := .later }
def ReqlineTextsCardSaid : Prop := Claim7.holds Tryd.pinned (.plain (OpenSpec.ofChange reqlineTextsSpec)) reqlineTextsCard

/-- THE TIED CARD OF 'doorkeeperlaw10.ReqlineKinds'. -/
def reqlineKindsCard : Claim7 := { stood := { row := reqlineKindsRow, standIns := [], harness := (true, "f415b36f0811a6a9ced6d804f445cc691c4a63a5c1f9b95cf1af1f7c828e66d2"), looks := true }, kinds := [], alts := [], laidByText := true, laidKinds := [.data, .handle, .widerDeep, .funcs, .pinned], laidTests := true, laidLooks := .later }
def ReqlineKindsCardSaid : Prop := Claim7.holds Tryd.pinned (.plain (OpenSpec.ofChange reqlineKindsSpec)) reqlineKindsCard

/-- THE TIED CARD OF 'doorkeeperlaw10.ReqlineSpaces'. -/
def reqlineSpacesCard : Claim7 := { stood := { row := reqlineSpacesRow, standIns := [], harness := (true, "f415b36f0811a6a9ced6d804f445cc691c4a63a5c1f9b95cf1af1f7c828e66d2"), looks := true }, kinds := [], alts := [], laidByText := true, laidKinds := [.data, .handle, .widerDeep, .funcs, .pinned], laidTests := true, laidLooks := .later }
def ReqlineSpacesCardSaid : Prop := Claim7.holds Tryd.pinned (.plain (OpenSpec.ofChange reqlineSpacesSpec)) reqlineSpacesCard

/-- THE TIED CARD OF 'doorkeeperlaw10.ReqlineVersions'. -/
def reqlineVersionsCard : Claim7 := { stood := { row := reqlineVersionsRow, standIns := [], harness := (true, "f415b36f0811a6a9ced6d804f445cc691c4a63a5c1f9b95cf1af1f7c828e66d2"), looks := true }, kinds := [], alts := [], laidByText := true, laidKinds := [.data, .handle, .widerDeep, .funcs, .pinned], laidTests := true, laidLooks := .later }
def ReqlineVersionsCardSaid : Prop := Claim7.holds Tryd.pinned (.plain (OpenSpec.ofChange reqlineVersionsSpec)) reqlineVersionsCard

/-- THE TIED CARD OF 'doorkeeperlaw21.CredParses'. -/
def credParsesCard : Claim7 := { stood := { row := credParsesRow, standIns := [], harness := (true, "f415b36f0811a6a9ced6d804f445cc691c4a63a5c1f9b95cf1af1f7c828e66d2"), looks := true }, kinds := [], alts := [], laidByText := true, laidKinds := [.data, .data, .pinned], laidTests := true, laidLooks := .later }
def CredParsesCardSaid : Prop := Claim7.holds Tryd.pinned (.plain (OpenSpec.ofChange credParsesSpec)) credParsesCard

/-- THE TIED CARD OF 'doorkeeperlaw21.CredInverse'. -/
def credInverseCard : Claim7 := { stood := { row := credInverseRow, standIns := [], harness := (true, "f415b36f0811a6a9ced6d804f445cc691c4a63a5c1f9b95cf1af1f7c828e66d2"), looks := true }, kinds := [], alts := [], laidByText := true, laidKinds := [.data, .data, .pinned], laidTests := true, laidLooks := .later }
def CredInverseCardSaid : Prop := Claim7.holds Tryd.pinned (.plain (OpenSpec.ofChange credInverseSpec)) credInverseCard

/-- THE TIED CARD OF 'doorkeeperlaw21.CredVerifies'. -/
def credVerifiesCard : Claim7 := { stood := { row := credVerifiesRow, standIns := [], harness := (true, "f415b36f0811a6a9ced6d804f445cc691c4a63a5c1f9b95cf1af1f7c828e66d2"), looks := true }, kinds := [], alts := [], laidByText := true, laidKinds := [.data, .data, .pinned], laidTests := true, laidLooks := .later }
def CredVerifiesCardSaid : Prop := Claim7.holds Tryd.pinned (.plain (OpenSpec.ofChange credVerifiesSpec)) credVerifiesCard

/-- THE SECOND FORM's CARD OF 'doorkeeperlaw10.ReqlineParses'. -/
def reqlineParsesUptoCard : Claim7 := { stood := { row := reqlineParsesUptoRow, standIns := [], harness := (true, "f415b36f0811a6a9ced6d804f445cc691c4a63a5c1f9b95cf1af1f7c828e66d2"), looks := true }, kinds := [], alts := [], laidByText := true, laidKinds := [.data, .handle, .widerDeep, .funcs, .pinned], laidTests := true, laidLooks := .later }
def ReqlineParsesUptoCardSaid : Prop := Claim7.holds Tryd.pinned (.plain (OpenSpec.upto reqlineParsesSpec)) reqlineParsesUptoCard

/-- THE SECOND FORM's CARD OF 'doorkeeperlaw10.ReqlineTexts'. -/
def reqlineTextsUptoCard : Claim7 := { stood := { row := reqlineTextsUptoRow, standIns := [], harness := (true, "f415b36f0811a6a9ced6d804f445cc691c4a63a5c1f9b95cf1af1f7c828e66d2"), looks := true }, kinds := [], alts := [], laidByText := true, laidKinds := [.data, .handle, .widerDeep, .funcs, .pinned], laidTests := true, laidLooks := .later }
def ReqlineTextsUptoCardSaid : Prop := Claim7.holds Tryd.pinned (.plain (OpenSpec.upto reqlineTextsSpec)) reqlineTextsUptoCard

/-- THE SECOND FORM's CARD OF 'doorkeeperlaw10.ReqlineKinds'. -/
def reqlineKindsUptoCard : Claim7 := { stood := { row := reqlineKindsUptoRow, standIns := [], harness := (true, "f415b36f0811a6a9ced6d804f445cc691c4a63a5c1f9b95cf1af1f7c828e66d2"), looks := true }, kinds := [], alts := [], laidByText := true, laidKinds := [.data, .handle, .widerDeep, .funcs, .pinned], laidTests := true, laidLooks := .later }
def ReqlineKindsUptoCardSaid : Prop := Claim7.holds Tryd.pinned (.plain (OpenSpec.upto reqlineKindsSpec)) reqlineKindsUptoCard

/-- THE SECOND FORM's CARD OF 'doorkeeperlaw10.ReqlineSpaces'. -/
def reqlineSpacesUptoCard : Claim7 := { stood := { row := reqlineSpacesUptoRow, standIns := [], harness := (true, "f415b36f0811a6a9ced6d804f445cc691c4a63a5c1f9b95cf1af1f7c828e66d2"), looks := true }, kinds := [], alts := [], laidByText := true, laidKinds := [.data, .handle, .widerDeep, .funcs, .pinned], laidTests := true, laidLooks := .later }
def ReqlineSpacesUptoCardSaid : Prop := Claim7.holds Tryd.pinned (.plain (OpenSpec.upto reqlineSpacesSpec)) reqlineSpacesUptoCard

/-- THE SECOND FORM's CARD OF 'doorkeeperlaw10.ReqlineVersions'. -/
def reqlineVersionsUptoCard : Claim7 := { stood := { row := reqlineVersionsUptoRow, standIns := [], harness := (true, "f415b36f0811a6a9ced6d804f445cc691c4a63a5c1f9b95cf1af1f7c828e66d2"), looks := true }, kinds := [], alts := [], laidByText := true, laidKinds := [.data, .handle, .widerDeep, .funcs, .pinned], laidTests := true, laidLooks := .later }
def ReqlineVersionsUptoCardSaid : Prop := Claim7.holds Tryd.pinned (.plain (OpenSpec.upto reqlineVersionsSpec)) reqlineVersionsUptoCard

/-- THE SECOND FORM's CARD OF 'doorkeeperlaw21.CredParses'. -/
def credParsesUptoCard : Claim7 := { stood := { row := credParsesUptoRow, standIns := [], harness := (true, "f415b36f0811a6a9ced6d804f445cc691c4a63a5c1f9b95cf1af1f7c828e66d2"), looks := true }, kinds := [], alts := [], laidByText := true, laidKinds := [.data, .data, .pinned], laidTests := true, laidLooks := .later }
def CredParsesUptoCardSaid : Prop := Claim7.holds Tryd.pinned (.plain (OpenSpec.upto credParsesSpec)) credParsesUptoCard

/-- THE SECOND FORM's CARD OF 'doorkeeperlaw21.CredInverse'. -/
def credInverseUptoCard : Claim7 := { stood := { row := credInverseUptoRow, standIns := [], harness := (true, "f415b36f0811a6a9ced6d804f445cc691c4a63a5c1f9b95cf1af1f7c828e66d2"), looks := true }, kinds := [], alts := [], laidByText := true, laidKinds := [.data, .data, .pinned], laidTests := true, laidLooks := .later }
def CredInverseUptoCardSaid : Prop := Claim7.holds Tryd.pinned (.plain (OpenSpec.upto credInverseSpec)) credInverseUptoCard

/-- THE SECOND FORM's CARD OF 'doorkeeperlaw21.CredVerifies'. -/
def credVerifiesUptoCard : Claim7 := { stood := { row := credVerifiesUptoRow, standIns := [], harness := (true, "f415b36f0811a6a9ced6d804f445cc691c4a63a5c1f9b95cf1af1f7c828e66d2"), looks := true }, kinds := [], alts := [], laidByText := true, laidKinds := [.data, .data, .pinned], laidTests := true, laidLooks := .later }
def CredVerifiesUptoCardSaid : Prop := Claim7.holds Tryd.pinned (.plain (OpenSpec.upto credVerifiesSpec)) credVerifiesUptoCard
end Rows
end Go.Proofs.YtiolgglipcijpaaDoor
