/-
  DERIVED. GIVEN WITH THE SEED: THE CARDS: each row of YtpbpmfckmgcdfaaDoorRows.lean that lists a variable, with what it lists TIED to the program's text (the seventh form; the later family's looks); each row that meets fmt, with fmt's text TOLD by the authors' own Lean function (tested against real Go, not proved from fmt's source: count such statements apart). THE CARD IS WHAT COUNTS. Prove the row's statement (the work); the ties are given (YtpbpmfckmgcdfaaDoorTie.lean); close each card by the builder's one call (the guide's Derived/Test/ToyasCard.lean, 'card_holds'). Laid BY PROGRAM, IN A SANDBOX (cutbox-door.mjs). By AI agents, Wed Nov 11 2026. No macro, syntax, notation, axiom, sorry.
-/
import Derived.Test.YtpbpmfckmgcdfaaDoorRows
import GoSem.ClaimSeven
namespace Go.Proofs.YtpbpmfckmgcdfaaDoor
namespace Rows

/-- THE TIED CARD OF 'laws.FnExactBitName'. -/
def fnExactBitNameCard : Claim7 := { stood := { row := fnExactBitNameRow, standIns := [], harness := (true, "e25a07e2df7f9cb671fe9be4bf5707069d1002889900aa8c5700408bfd7e40f1"), looks := false }, kinds := [], alts := [], laidByText := true, laidKinds := [.data, .data, .data], laidTests := true, laidLooks := .later }
def FnExactBitNameCardSaid : Prop := Claim7.holds Tryd.pinned (.plain (OpenSpec.ofChange fnExactBitNameSpec)) fnExactBitNameCard

/-- THE SECOND FORM's CARD OF 'laws.FnExactBitName'. -/
def fnExactBitNameUptoCard : Claim7 := { stood := { row := fnExactBitNameUptoRow, standIns := [], harness := (true, "e25a07e2df7f9cb671fe9be4bf5707069d1002889900aa8c5700408bfd7e40f1"), looks := false }, kinds := [], alts := [], laidByText := true, laidKinds := [.data, .data, .data], laidTests := true, laidLooks := .later }
def FnExactBitNameUptoCardSaid : Prop := Claim7.holds Tryd.pinned (.plain (OpenSpec.upto fnExactBitNameSpec)) fnExactBitNameUptoCard
end Rows
end Go.Proofs.YtpbpmfckmgcdfaaDoor
