/-
  DERIVED. GIVEN WITH THE SEED: THE CARDS: each row of YtfecolaljnijbaaDoorRows.lean that lists a variable, with what it lists TIED to the program's text (the seventh form; the later family's looks); each row that meets fmt, with fmt's text TOLD by the authors' own Lean function (tested against real Go, not proved from fmt's source: count such statements apart). THE CARD IS WHAT COUNTS. Prove the row's statement (the work); the ties are given (YtfecolaljnijbaaDoorTie.lean); close each card by the builder's one call (the guide's Derived/Test/ToyasCard.lean, 'card_holds'). Laid BY PROGRAM, IN A SANDBOX (cutbox-door.mjs). By AI agents, Wed Nov 11 2026. No macro, syntax, notation, axiom, sorry.
-/
import Derived.Test.YtfecolaljnijbaaDoorRows
import GoSem.ClaimSeven
namespace Go.Proofs.YtfecolaljnijbaaDoor
namespace Rows

/-- THE TIED CARD OF 'pentaglotlaw43.BidiClasses'. -/
def bidiClassesCard : Claim7 := { stood := { row := bidiClassesRow, standIns := [], harness := (true, "a950fd1db47c81ab2a6f23c77d86e95e8ce69bb4c66d00084ec878e1e8e70861"), looks := false }, kinds := [], alts := [], laidByText := true, laidKinds := [.data, .pinned], laidTests := true, laidLooks := .later }
def BidiClassesCardSaid : Prop := Claim7.holds Tryd.pinned (.plain (OpenSpec.ofChange bidiClassesSpec)) bidiClassesCard

/-- THE TIED CARD OF 'pentaglotlaw43.BidiLevels'. -/
def bidiLevelsCard : Claim7 := { stood := { row := bidiLevelsRow, standIns := [], harness := (true, "a950fd1db47c81ab2a6f23c77d86e95e8ce69bb4c66d00084ec878e1e8e70861"), looks := false }, kinds := [], alts := [], laidByText := true, laidKinds := [.data, .pinned], laidTests := true, laidLooks := .later }
def BidiLevelsCardSaid : Prop := Claim7.holds Tryd.pinned (.plain (OpenSpec.ofChange bidiLevelsSpec)) bidiLevelsCard

/-- THE TIED CARD OF 'pentaglotlaw43.BidiOrder'. -/
def bidiOrderCard : Claim7 := { stood := { row := bidiOrderRow, standIns := [], harness := (true, "a950fd1db47c81ab2a6f23c77d86e95e8ce69bb4c66d00084ec878e1e8e70861"), looks := false }, kinds := [], alts := [], laidByText := true, laidKinds := [.data, .pinned], laidTests := true, laidLooks := .later }
def BidiOrderCardSaid : Prop := Claim7.holds Tryd.pinned (.plain (OpenSpec.ofChange bidiOrderSpec)) bidiOrderCard

/-- THE TIED CARD OF 'pentaglotlaw43.BidiVisual'. -/
def bidiVisualCard : Claim7 := { stood := { row := bidiVisualRow, standIns := [], harness := (true, "a950fd1db47c81ab2a6f23c77d86e95e8ce69bb4c66d00084ec878e1e8e70861"), looks := false }, kinds := [], alts := [], laidByText := true, laidKinds := [.data, .pinned], laidTests := true, laidLooks := .later }
def BidiVisualCardSaid : Prop := Claim7.holds Tryd.pinned (.plain (OpenSpec.ofChange bidiVisualSpec)) bidiVisualCard

/-- THE TIED CARD OF 'pentaglotlaw43.BidiLogical'. -/
def bidiLogicalCard : Claim7 := { stood := { row := bidiLogicalRow, standIns := [], harness := (true, "a950fd1db47c81ab2a6f23c77d86e95e8ce69bb4c66d00084ec878e1e8e70861"), looks := false }, kinds := [], alts := [], laidByText := true, laidKinds := [.data, .pinned], laidTests := true, laidLooks := .later }
def BidiLogicalCardSaid : Prop := Claim7.holds Tryd.pinned (.plain (OpenSpec.ofChange bidiLogicalSpec)) bidiLogicalCard

/-- THE TIED CARD OF 'pentaglotlaw43.BidiRuns'. -/
def bidiRunsCard : Claim7 := { stood := { row := bidiRunsRow, standIns := [], harness := (true, "a950fd1db47c81ab2a6f23c77d86e95e8ce69bb4c66d00084ec878e1e8e70861"), looks := false }, kinds := [], alts := [], laidByText := true, laidKinds := [.data, .pinned], laidTests := true, laidLooks := .later }
def BidiRunsCardSaid : Prop := Claim7.holds Tryd.pinned (.plain (OpenSpec.ofChange bidiRunsSpec)) bidiRunsCard

/-- THE TIED CARD OF 'pentaglotlaw43.BidiPlain'. -/
def bidiPlainCard : Claim7 := { stood := { row := bidiPlainRow, standIns := [], harness := (true, "a950fd1db47c81ab2a6f23c77d86e95e8ce69bb4c66d00084ec878e1e8e70861"), looks := false }, kinds := [], alts := [], laidByText := true, laidKinds := [.data, .pinned], laidTests := true, laidLooks := .later }
def BidiPlainCardSaid : Prop := Claim7.holds Tryd.pinned (.plain (OpenSpec.ofChange bidiPlainSpec)) bidiPlainCard

/-- THE TIED CARD OF 'pentaglotlaw43.BidiParts'. -/
def bidiPartsCard : Claim7 := { stood := { row := bidiPartsRow, standIns := [], harness := (true, "a950fd1db47c81ab2a6f23c77d86e95e8ce69bb4c66d00084ec878e1e8e70861"), looks := false }, kinds := [], alts := [], laidByText := true, laidKinds := [.data, .pinned], laidTests := true, laidLooks := .later }
def BidiPartsCardSaid : Prop := Claim7.holds Tryd.pinned (.plain (OpenSpec.ofChange bidiPartsSpec)) bidiPartsCard

/-- THE TIED CARD OF 'pentaglotlaw43.BidiBase'. -/
def bidiBaseCard : Claim7 := { stood := { row := bidiBaseRow, standIns := [], harness := (true, "a950fd1db47c81ab2a6f23c77d86e95e8ce69bb4c66d00084ec878e1e8e70861"), looks := false }, kinds := [], alts := [], laidByText := true, laidKinds := [.data, .pinned], laidTests := true, laidLooks := .later }
def BidiBaseCardSaid : Prop := Claim7.holds Tryd.pinned (.plain (OpenSpec.ofChange bidiBaseSpec)) bidiBaseCard

/-- THE SECOND FORM's CARD OF 'pentaglotlaw43.BidiClasses'. -/
def bidiClassesUptoCard : Claim7 := { stood := { row := bidiClassesUptoRow, standIns := [], harness := (true, "a950fd1db47c81ab2a6f23c77d86e95e8ce69bb4c66d00084ec878e1e8e70861"), looks := false }, kinds := [], alts := [], laidByText := true, laidKinds := [.data, .pinned], laidTests := true, laidLooks := .later }
def BidiClassesUptoCardSaid : Prop := Claim7.holds Tryd.pinned (.plain (OpenSpec.upto bidiClassesSpec)) bidiClassesUptoCard

/-- THE SECOND FORM's CARD OF 'pentaglotlaw43.BidiLevels'. -/
def bidiLevelsUptoCard : Claim7 := { stood := { row := bidiLevelsUptoRow, standIns := [], harness := (true, "a950fd1db47c81ab2a6f23c77d86e95e8ce69bb4c66d00084ec878e1e8e70861"), looks := false }, kinds := [], alts := [], laidByText := true, laidKinds := [.data, .pinned], laidTests := true, laidLooks := .later }
def BidiLevelsUptoCardSaid : Prop := Claim7.holds Tryd.pinned (.plain (OpenSpec.upto bidiLevelsSpec)) bidiLevelsUptoCard

/-- THE SECOND FORM's CARD OF 'pentaglotlaw43.BidiOrder'. -/
def bidiOrderUptoCard : Claim7 := { stood := { row := bidiOrderUptoRow, standIns := [], harness := (true, "a950fd1db47c81ab2a6f23c77d86e95e8ce69bb4c66d00084ec878e1e8e70861"), looks := false }, kinds := [], alts := [], laidByText := true, laidKinds := [.data, .pinned], laidTests := true, laidLooks := .later }
def BidiOrderUptoCardSaid : Prop := Claim7.holds Tryd.pinned (.plain (OpenSpec.upto bidiOrderSpec)) bidiOrderUptoCard

/-- THE SECOND FORM's CARD OF 'pentaglotlaw43.BidiVisual'. -/
def bidiVisualUptoCard : Claim7 := { stood := { row := bidiVisualUptoRow, standIns := [], harness := (true, "a950fd1db47c81ab2a6f23c77d86e95e8ce69bb4c66d00084ec878e1e8e70861"), looks := false }, kinds := [], alts := [], laidByText := true, laidKinds := [.data, .pinned], laidTests := true, laidLooks := .later }
def BidiVisualUptoCardSaid : Prop := Claim7.holds Tryd.pinned (.plain (OpenSpec.upto bidiVisualSpec)) bidiVisualUptoCard

/-- THE SECOND FORM's CARD OF 'pentaglotlaw43.BidiLogical'. -/
def bidiLogicalUptoCard : Claim7 := { stood := { row := bidiLogicalUptoRow, standIns := [], harness := (true, "a950fd1db47c81ab2a6f23c77d86e95e8ce69bb4c66d00084ec878e1e8e70861"), looks := false }, kinds := [], alts := [], laidByText := true, laidKinds := [.data, .pinned], laidTests := true, laidLooks := .later }
def BidiLogicalUptoCardSaid : Prop := Claim7.holds Tryd.pinned (.plain (OpenSpec.upto bidiLogicalSpec)) bidiLogicalUptoCard

/-- THE SECOND FORM's CARD OF 'pentaglotlaw43.BidiRuns'. -/
def bidiRunsUptoCard : Claim7 := { stood := { row := bidiRunsUptoRow, standIns := [], harness := (true, "a950fd1db47c81ab2a6f23c77d86e95e8ce69bb4c66d00084ec878e1e8e70861"), looks := false }, kinds := [], alts := [], laidByText := true, laidKinds := [.data, .pinned], laidTests := true, laidLooks := .later }
def BidiRunsUptoCardSaid : Prop := Claim7.holds Tryd.pinned (.plain (OpenSpec.upto bidiRunsSpec)) bidiRunsUptoCard

/-- THE SECOND FORM's CARD OF 'pentaglotlaw43.BidiPlain'. -/
def bidiPlainUptoCard : Claim7 := { stood := { row := bidiPlainUptoRow, standIns := [], harness := (true, "a950fd1db47c81ab2a6f23c77d86e95e8ce69bb4c66d00084ec878e1e8e70861"), looks := false }, kinds := [], alts := [], laidByText := true, laidKinds := [.data, .pinned], laidTests := true, laidLooks := .later }
def BidiPlainUptoCardSaid : Prop := Claim7.holds Tryd.pinned (.plain (OpenSpec.upto bidiPlainSpec)) bidiPlainUptoCard

/-- THE SECOND FORM's CARD OF 'pentaglotlaw43.BidiParts'. -/
def bidiPartsUptoCard : Claim7 := { stood := { row := bidiPartsUptoRow, standIns := [], harness := (true, "a950fd1db47c81ab2a6f23c77d86e95e8ce69bb4c66d00084ec878e1e8e70861"), looks := false }, kinds := [], alts := [], laidByText := true, laidKinds := [.data, .pinned], laidTests := true, laidLooks := .later }
def BidiPartsUptoCardSaid : Prop := Claim7.holds Tryd.pinned (.plain (OpenSpec.upto bidiPartsSpec)) bidiPartsUptoCard

/-- THE SECOND FORM's CARD OF 'pentaglotlaw43.BidiBase'. -/
def bidiBaseUptoCard : Claim7 := { stood := { row := bidiBaseUptoRow, standIns := [], harness := (true, "a950fd1db47c81ab2a6f23c77d86e95e8ce69bb4c66d00084ec878e1e8e70861"), looks := false }, kinds := [], alts := [], laidByText := true, laidKinds := [.data, .pinned], laidTests := true, laidLooks := .later }
def BidiBaseUptoCardSaid : Prop := Claim7.holds Tryd.pinned (.plain (OpenSpec.upto bidiBaseSpec)) bidiBaseUptoCard
end Rows
end Go.Proofs.YtfecolaljnijbaaDoor
