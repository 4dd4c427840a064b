/-
  DERIVED. GIVEN WITH THE SEED: THE CARDS: each row of YtepkaagbjfnpbaaDoorRows.lean that lists a variable, with what it lists TIED to the program's text (the seventh form; the later family's looks); each row that meets fmt, with fmt's text TOLD by the authors' own Lean function (tested against real Go, not proved from fmt's source: count such statements apart). THE CARD IS WHAT COUNTS. Prove the row's statement (the work); the ties are given (YtepkaagbjfnpbaaDoorTie.lean); close each card by the builder's one call (the guide's Derived/Test/ToyasCard.lean, 'card_holds'). Laid BY PROGRAM, IN A SANDBOX (cutbox-door.mjs). By AI agents, Wed Nov 11 2026. No macro, syntax, notation, axiom, sorry.
-/
import Derived.Test.YtepkaagbjfnpbaaDoorRows
import GoSem.ClaimSeven
namespace Go.Proofs.YtepkaagbjfnpbaaDoor
namespace Rows

/-- THE TIED CARD OF 'cosmaclaw14.DecodeMatchesReference'. -/
def decodeMatchesReferenceCard : Claim7 := { stood := { row := decodeMatchesReferenceRow, standIns := [], harness := (true, "ef538f73967b61b76068ca003a7c33c8f943589bafa51592daca5da25cd87946"), looks := false }, kinds := [], alts := [], laidByText := true, laidKinds := [.funcs, .funcs], laidTests := true, laidLooks := .later }
def DecodeMatchesReferenceCardSaid : Prop := Claim7.holds Tryd.pinned (.plain (OpenSpec.ofChange decodeMatchesReferenceSpec)) decodeMatchesReferenceCard

/-- THE TIED CARD OF 'cosmaclaw14.DecodeTotal'. -/
def decodeTotalCard : Claim7 := { stood := { row := decodeTotalRow, standIns := [], harness := (true, "ef538f73967b61b76068ca003a7c33c8f943589bafa51592daca5da25cd87946"), looks := false }, kinds := [], alts := [], laidByText := true, laidKinds := [.funcs, .funcs], laidTests := true, laidLooks := .later }
def DecodeTotalCardSaid : Prop := Claim7.holds Tryd.pinned (.plain (OpenSpec.ofChange decodeTotalSpec)) decodeTotalCard

/-- THE TIED CARD OF 'cosmaclaw14.DecodeShort'. -/
def decodeShortCard : Claim7 := { stood := { row := decodeShortRow, standIns := [], harness := (true, "ef538f73967b61b76068ca003a7c33c8f943589bafa51592daca5da25cd87946"), looks := false }, kinds := [], alts := [], laidByText := true, laidKinds := [.funcs, .funcs], laidTests := true, laidLooks := .later }
def DecodeShortCardSaid : Prop := Claim7.holds Tryd.pinned (.plain (OpenSpec.ofChange decodeShortSpec)) decodeShortCard

/-- THE TIED CARD OF 'cosmaclaw14.DecodeOthers'. -/
def decodeOthersCard : Claim7 := { stood := { row := decodeOthersRow, standIns := [], harness := (true, "ef538f73967b61b76068ca003a7c33c8f943589bafa51592daca5da25cd87946"), looks := false }, kinds := [], alts := [], laidByText := true, laidKinds := [.funcs, .funcs], laidTests := true, laidLooks := .later }
def DecodeOthersCardSaid : Prop := Claim7.holds Tryd.pinned (.plain (OpenSpec.ofChange decodeOthersSpec)) decodeOthersCard

/-- THE TIED CARD OF 'cosmaclaw14.DecodeFields'. -/
def decodeFieldsCard : Claim7 := { stood := { row := decodeFieldsRow, standIns := [], harness := (true, "ef538f73967b61b76068ca003a7c33c8f943589bafa51592daca5da25cd87946"), looks := false }, kinds := [], alts := [], laidByText := true, laidKinds := [.funcs, .funcs], laidTests := true, laidLooks := .later }
def DecodeFieldsCardSaid : Prop := Claim7.holds Tryd.pinned (.plain (OpenSpec.ofChange decodeFieldsSpec)) decodeFieldsCard

/-- THE SECOND FORM's CARD OF 'cosmaclaw14.DecodeMatchesReference'. -/
def decodeMatchesReferenceUptoCard : Claim7 := { stood := { row := decodeMatchesReferenceUptoRow, standIns := [], harness := (true, "ef538f73967b61b76068ca003a7c33c8f943589bafa51592daca5da25cd87946"), looks := false }, kinds := [], alts := [], laidByText := true, laidKinds := [.funcs, .funcs], laidTests := true, laidLooks := .later }
def DecodeMatchesReferenceUptoCardSaid : Prop := Claim7.holds Tryd.pinned (.plain (OpenSpec.upto decodeMatchesReferenceSpec)) decodeMatchesReferenceUptoCard

/-- THE SECOND FORM's CARD OF 'cosmaclaw14.DecodeTotal'. -/
def decodeTotalUptoCard : Claim7 := { stood := { row := decodeTotalUptoRow, standIns := [], harness := (true, "ef538f73967b61b76068ca003a7c33c8f943589bafa51592daca5da25cd87946"), looks := false }, kinds := [], alts := [], laidByText := true, laidKinds := [.funcs, .funcs], laidTests := true, laidLooks := .later }
def DecodeTotalUptoCardSaid : Prop := Claim7.holds Tryd.pinned (.plain (OpenSpec.upto decodeTotalSpec)) decodeTotalUptoCard

/-- THE SECOND FORM's CARD OF 'cosmaclaw14.DecodeShort'. -/
def decodeShortUptoCard : Claim7 := { stood := { row := decodeShortUptoRow, standIns := [], harness := (true, "ef538f73967b61b76068ca003a7c33c8f943589bafa51592daca5da25cd87946"), looks := false }, kinds := [], alts := [], laidByText := true, laidKinds := [.funcs, .funcs], laidTests := true, laidLooks := .later }
def DecodeShortUptoCardSaid : Prop := Claim7.holds Tryd.pinned (.plain (OpenSpec.upto decodeShortSpec)) decodeShortUptoCard

/-- THE SECOND FORM's CARD OF 'cosmaclaw14.DecodeOthers'. -/
def decodeOthersUptoCard : Claim7 := { stood := { row := decodeOthersUptoRow, standIns := [], harness := (true, "ef538f73967b61b76068ca003a7c33c8f943589bafa51592daca5da25cd87946"), looks := false }, kinds := [], alts := [], laidByText := true, laidKinds := [.funcs, .funcs], laidTests := true, laidLooks := .later }
def DecodeOthersUptoCardSaid : Prop := Claim7.holds Tryd.pinned (.plain (OpenSpec.upto decodeOthersSpec)) decodeOthersUptoCard

/-- THE SECOND FORM's CARD OF 'cosmaclaw14.DecodeFields'. -/
def decodeFieldsUptoCard : Claim7 := { stood := { row := decodeFieldsUptoRow, standIns := [], harness := (true, "ef538f73967b61b76068ca003a7c33c8f943589bafa51592daca5da25cd87946"), looks := false }, kinds := [], alts := [], laidByText := true, laidKinds := [.funcs, .funcs], laidTests := true, laidLooks := .later }
def DecodeFieldsUptoCardSaid : Prop := Claim7.holds Tryd.pinned (.plain (OpenSpec.upto decodeFieldsSpec)) decodeFieldsUptoCard
end Rows
end Go.Proofs.YtepkaagbjfnpbaaDoor
