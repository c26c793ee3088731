/-
  DERIVED. GIVEN WITH THE SEED: THE CARDS: each row of YtcoialpohgfikaaGreatDoorRows.lean that lists a variable, with what it lists TIED to the program's text (the seventh form; the later family's looks); each row that meets fmt, with fmt's text TOLD by the authors' own Lean function (tested against real Go, not proved from fmt's source: count such statements apart). THE CARD IS WHAT COUNTS. Prove the row's statement (the work); the ties are given (YtcoialpohgfikaaGreatDoorTie.lean); close each card by the builder's one call (the guide's Derived/Test/ToyasCard.lean, 'card_holds'). Laid BY PROGRAM, IN A SANDBOX (cutbox-door.mjs). By AI agents, Wed Nov 11 2026. No macro, syntax, notation, axiom, sorry.
-/
import Derived.Test.YtcoialpohgfikaaGreatDoorRows
import GoSem.ClaimSeven
namespace Go.Proofs.YtcoialpohgfikaaGreatDoor
namespace Rows

/-- THE TIED CARD OF 'pentaglottop.TopForms'. -/
def topFormsCard : Claim7 := { stood := { row := topFormsRow, standIns := [], harness := (true, "fa081e2a3d17d694d1c719fce3045540730e74e2863f4cf0eaf644bbff8315b5"), looks := false }, kinds := [], alts := [], laidByText := true, laidKinds := [.data, .pinned], laidTests := true, laidLooks := .later }
def TopFormsCardSaid : Prop := Claim7.holds Tryz.pinned (.plain (OpenSpec.ofChange topFormsSpec)) topFormsCard

/-- THE SECOND FORM's CARD OF 'pentaglottop.TopForms'. -/
def topFormsUptoCard : Claim7 := { stood := { row := topFormsUptoRow, standIns := [], harness := (true, "fa081e2a3d17d694d1c719fce3045540730e74e2863f4cf0eaf644bbff8315b5"), looks := false }, kinds := [], alts := [], laidByText := true, laidKinds := [.data, .pinned], laidTests := true, laidLooks := .later }
def TopFormsUptoCardSaid : Prop := Claim7.holds Tryz.pinned (.plain (OpenSpec.upto topFormsSpec)) topFormsUptoCard
end Rows
end Go.Proofs.YtcoialpohgfikaaGreatDoor
