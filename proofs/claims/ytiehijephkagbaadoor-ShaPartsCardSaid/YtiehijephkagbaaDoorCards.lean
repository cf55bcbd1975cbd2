/-
  DERIVED. GIVEN WITH THE SEED: THE CARDS: each row of YtiehijephkagbaaDoorRows.lean that lists a variable, with what it lists TIED to the program's text (the seventh form; the later family's looks); each row that meets fmt, with fmt's text TOLD by the authors' own Lean function (tested against real Go, not proved from fmt's source: count such statements apart). THE CARD IS WHAT COUNTS. Prove the row's statement (the work); the ties are given (YtiehijephkagbaaDoorTie.lean); close each card by the builder's one call (the guide's Derived/Test/ToyasCard.lean, 'card_holds'). Laid BY PROGRAM, IN A SANDBOX (cutbox-door.mjs). By AI agents, Wed Nov 11 2026. No macro, syntax, notation, axiom, sorry.
-/
import Derived.Test.YtiehijephkagbaaDoorRows
import GoSem.ClaimSeven
namespace Go.Proofs.YtiehijephkagbaaDoor
namespace Rows

/-- THE TIED CARD OF 'inkwelllaw04.ShaPlays'. -/
def shaPlaysCard : Claim7 := { stood := { row := shaPlaysRow, standIns := [], harness := (true, "60f4179850f10c16b78af8c0522bffb0346786063870d511ebcd0c68beb479a4"), looks := false }, kinds := [], alts := [], laidByText := true, laidKinds := [.data, .data], laidTests := true, laidLooks := .later }
def ShaPlaysCardSaid : Prop := Claim7.holds Tryd.pinned (.plain (OpenSpec.ofChange shaPlaysSpec)) shaPlaysCard

/-- THE TIED CARD OF 'inkwelllaw04.ShaEnds'. -/
def shaEndsCard : Claim7 := { stood := { row := shaEndsRow, standIns := [], harness := (true, "60f4179850f10c16b78af8c0522bffb0346786063870d511ebcd0c68beb479a4"), looks := false }, kinds := [], alts := [], laidByText := true, laidKinds := [.data, .data], laidTests := true, laidLooks := .later }
def ShaEndsCardSaid : Prop := Claim7.holds Tryd.pinned (.plain (OpenSpec.ofChange shaEndsSpec)) shaEndsCard

/-- THE TIED CARD OF 'inkwelllaw04.ShaJoins'. -/
def shaJoinsCard : Claim7 := { stood := { row := shaJoinsRow, standIns := [], harness := (true, "60f4179850f10c16b78af8c0522bffb0346786063870d511ebcd0c68beb479a4"), looks := false }, kinds := [], alts := [], laidByText := true, laidKinds := [.data, .data], laidTests := true, laidLooks := .later }
def ShaJoinsCardSaid : Prop := Claim7.holds Tryd.pinned (.plain (OpenSpec.ofChange shaJoinsSpec)) shaJoinsCard

/-- THE TIED CARD OF 'inkwelllaw04.ShaParts'. -/
def shaPartsCard : Claim7 := { stood := { row := shaPartsRow, standIns := [], harness := (true, "60f4179850f10c16b78af8c0522bffb0346786063870d511ebcd0c68beb479a4"), looks := false }, kinds := [], alts := [], laidByText := true, laidKinds := [.data, .data], laidTests := true, laidLooks := .later }
def ShaPartsCardSaid : Prop := Claim7.holds Tryd.pinned (.plain (OpenSpec.ofChange shaPartsSpec)) shaPartsCard

/-- THE TIED CARD OF 'inkwelllaw04.ShaStays'. -/
def shaStaysCard : Claim7 := { stood := { row := shaStaysRow, standIns := [], harness := (true, "60f4179850f10c16b78af8c0522bffb0346786063870d511ebcd0c68beb479a4"), looks := false }, kinds := [], alts := [], laidByText := true, laidKinds := [.data, .data], laidTests := true, laidLooks := .later }
def ShaStaysCardSaid : Prop := Claim7.holds Tryd.pinned (.plain (OpenSpec.ofChange shaStaysSpec)) shaStaysCard

/-- THE SECOND FORM's CARD OF 'inkwelllaw04.ShaPlays'. -/
def shaPlaysUptoCard : Claim7 := { stood := { row := shaPlaysUptoRow, standIns := [], harness := (true, "60f4179850f10c16b78af8c0522bffb0346786063870d511ebcd0c68beb479a4"), looks := false }, kinds := [], alts := [], laidByText := true, laidKinds := [.data, .data], laidTests := true, laidLooks := .later }
def ShaPlaysUptoCardSaid : Prop := Claim7.holds Tryd.pinned (.plain (OpenSpec.upto shaPlaysSpec)) shaPlaysUptoCard

/-- THE SECOND FORM's CARD OF 'inkwelllaw04.ShaEnds'. -/
def shaEndsUptoCard : Claim7 := { stood := { row := shaEndsUptoRow, standIns := [], harness := (true, "60f4179850f10c16b78af8c0522bffb0346786063870d511ebcd0c68beb479a4"), looks := false }, kinds := [], alts := [], laidByText := true, laidKinds := [.data, .data], laidTests := true, laidLooks := .later }
def ShaEndsUptoCardSaid : Prop := Claim7.holds Tryd.pinned (.plain (OpenSpec.upto shaEndsSpec)) shaEndsUptoCard

/-- THE SECOND FORM's CARD OF 'inkwelllaw04.ShaJoins'. -/
def shaJoinsUptoCard : Claim7 := { stood := { row := shaJoinsUptoRow, standIns := [], harness := (true, "60f4179850f10c16b78af8c0522bffb0346786063870d511ebcd0c68beb479a4"), looks := false }, kinds := [], alts := [], laidByText := true, laidKinds := [.data, .data], laidTests := true, laidLooks := .later }
def ShaJoinsUptoCardSaid : Prop := Claim7.holds Tryd.pinned (.plain (OpenSpec.upto shaJoinsSpec)) shaJoinsUptoCard

/-- THE SECOND FORM's CARD OF 'inkwelllaw04.ShaParts'. -/
def shaPartsUptoCard : Claim7 := { stood := { row := shaPartsUptoRow, standIns := [], harness := (true, "60f4179850f10c16b78af8c0522bffb0346786063870d511ebcd0c68beb479a4"), looks := false }, kinds := [], alts := [], laidByText := true, laidKinds := [.data, .data], laidTests := true, laidLooks := .later }
def ShaPartsUptoCardSaid : Prop := Claim7.holds Tryd.pinned (.plain (OpenSpec.upto shaPartsSpec)) shaPartsUptoCard

/-- THE SECOND FORM's CARD OF 'inkwelllaw04.ShaStays'. -/
def shaStaysUptoCard : Claim7 := { stood := { row := shaStaysUptoRow, standIns := [], harness := (true, "60f4179850f10c16b78af8c0522bffb0346786063870d511ebcd0c68beb479a4"), looks := false }, kinds := [], alts := [], laidByText := true, laidKinds := [.data, .data], laidTests := true, laidLooks := .later }
def ShaStaysUptoCardSaid : Prop := Claim7.holds Tryd.pinned (.plain (OpenSpec.upto shaStaysSpec)) shaStaysUptoCard
end Rows
end Go.Proofs.YtiehijephkagbaaDoor
