/-
  DERIVED. GIVEN WITH THE SEED: THE CARDS: each row of YtgphajeagfgmmaaGreatDoorRows.lean that lists a variable, with what it lists TIED to the program's text (the seventh form; the later family's looks); each row that meets fmt, with fmt's text TOLD by the authors' own Lean function (tested against real Go, not proved from fmt's source: count such statements apart). THE CARD IS WHAT COUNTS. Prove the row's statement (the work); the ties are given (YtgphajeagfgmmaaGreatDoorTie.lean); close each card by the builder's one call (the guide's Derived/Test/ToyasCard.lean, 'card_holds'). Laid BY PROGRAM, IN A SANDBOX (cutbox-door.mjs). By AI agents, Wed Nov 11 2026. No macro, syntax, notation, axiom, sorry.
-/
import Derived.Test.YtgphajeagfgmmaaGreatDoorRows
import GoSem.ClaimSeven
namespace Go.Proofs.YtgphajeagfgmmaaGreatDoor
namespace Rows

/-- THE TIED CARD OF 'inkwelltop.TopGrammar'. -/
def topGrammarCard : Claim7 := { stood := { row := topGrammarRow, standIns := [], harness := (true, "2d0e1a759afa9119f72921c09b13dea249061e0be8f41a747cf4f865bf7bcf8f"), looks := true }, kinds := [], alts := [], laidByText := true, laidKinds := [.widerDeep, .widerDeep, .data, .data, .widerDeep, .widerDeep], laidTests := true, laidLooks := .later }
def TopGrammarCardSaid : Prop := Claim7.holds Tryz.pinned (.plain (OpenSpec.ofChange topGrammarSpec)) topGrammarCard

/-- THE TIED CARD OF 'inkwelltop.TopPressed'. -/
def topPressedCard : Claim7 := { stood := { row := topPressedRow, standIns := [], harness := (true, "2d0e1a759afa9119f72921c09b13dea249061e0be8f41a747cf4f865bf7bcf8f"), looks := true }, kinds := [], alts := [], laidByText := true, laidKinds := [.widerDeep, .widerDeep, .data, .data, .widerDeep, .widerDeep], laidTests := true, laidLooks := .later }
def TopPressedCardSaid : Prop := Claim7.holds Tryz.pinned (.plain (OpenSpec.ofChange topPressedSpec)) topPressedCard

/-- THE SECOND FORM's CARD OF 'inkwelltop.TopGrammar'. -/
def topGrammarUptoCard : Claim7 := { stood := { row := topGrammarUptoRow, standIns := [], harness := (true, "2d0e1a759afa9119f72921c09b13dea249061e0be8f41a747cf4f865bf7bcf8f"), looks := true }, kinds := [], alts := [], laidByText := true, laidKinds := [.widerDeep, .widerDeep, .data, .data, .widerDeep, .widerDeep], laidTests := true, laidLooks := .later }
def TopGrammarUptoCardSaid : Prop := Claim7.holds Tryz.pinned (.plain (OpenSpec.upto topGrammarSpec)) topGrammarUptoCard

/-- THE SECOND FORM's CARD OF 'inkwelltop.TopPressed'. -/
def topPressedUptoCard : Claim7 := { stood := { row := topPressedUptoRow, standIns := [], harness := (true, "2d0e1a759afa9119f72921c09b13dea249061e0be8f41a747cf4f865bf7bcf8f"), looks := true }, kinds := [], alts := [], laidByText := true, laidKinds := [.widerDeep, .widerDeep, .data, .data, .widerDeep, .widerDeep], laidTests := true, laidLooks := .later }
def TopPressedUptoCardSaid : Prop := Claim7.holds Tryz.pinned (.plain (OpenSpec.upto topPressedSpec)) topPressedUptoCard
end Rows
end Go.Proofs.YtgphajeagfgmmaaGreatDoor
