/-
  DERIVED. GIVEN WITH THE SEED: THE CARDS: each row of YtipdfajadehkmaaDoorRows.lean that lists a variable, with what it lists TIED to the program's text (the seventh form; the later family's looks); each row that meets fmt, with fmt's text TOLD by the authors' own Lean function (tested against real Go, not proved from fmt's source: count such statements apart). THE CARD IS WHAT COUNTS. Prove the row's statement (the work); the ties are given (YtipdfajadehkmaaDoorTie.lean); close each card by the builder's one call (the guide's Derived/Test/ToyasCard.lean, 'card_holds'). Laid BY PROGRAM, IN A SANDBOX (cutbox-door.mjs). By AI agents, Wed Nov 11 2026. No macro, syntax, notation, axiom, sorry.
-/
import Derived.Test.YtipdfajadehkmaaDoorRows
import GoSem.ClaimSeven
namespace Go.Proofs.YtipdfajadehkmaaDoor
namespace Rows

/-- THE TIED CARD OF 'gantrytop.WholeNames'. -/
def wholeNamesCard : Claim7 := { stood := { row := wholeNamesRow, standIns := [], harness := (true, "947ecc9bea00738dd1f74da19d439b4a69c1eaa4e0a210df509b91b43380579b"), looks := false }, kinds := [], alts := [], laidByText := true, laidKinds := [.data, .data, .data], laidTests := true, laidLooks := .later }
def WholeNamesCardSaid : Prop := Claim7.holds Tryd.pinned (.plain (OpenSpec.ofChange wholeNamesSpec)) wholeNamesCard

/-- THE SECOND FORM's CARD OF 'gantrytop.WholeNames'. -/
def wholeNamesUptoCard : Claim7 := { stood := { row := wholeNamesUptoRow, standIns := [], harness := (true, "947ecc9bea00738dd1f74da19d439b4a69c1eaa4e0a210df509b91b43380579b"), looks := false }, kinds := [], alts := [], laidByText := true, laidKinds := [.data, .data, .data], laidTests := true, laidLooks := .later }
def WholeNamesUptoCardSaid : Prop := Claim7.holds Tryd.pinned (.plain (OpenSpec.upto wholeNamesSpec)) wholeNamesUptoCard
end Rows
end Go.Proofs.YtipdfajadehkmaaDoor
