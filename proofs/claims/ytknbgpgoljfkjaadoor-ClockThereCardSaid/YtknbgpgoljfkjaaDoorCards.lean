/-
  DERIVED. GIVEN WITH THE SEED: THE CARDS: each row of YtknbgpgoljfkjaaDoorRows.lean that lists a variable, with what it lists TIED to the program's text (the seventh form; the later family's looks); each row that meets fmt, with fmt's text TOLD by the authors' own Lean function (tested against real Go, not proved from fmt's source: count such statements apart). THE CARD IS WHAT COUNTS. Prove the row's statement (the work); the ties are given (YtknbgpgoljfkjaaDoorTie.lean); close each card by the builder's one call (the guide's Derived/Test/ToyasCard.lean, 'card_holds'). Laid BY PROGRAM, IN A SANDBOX (cutbox-door.mjs). By AI agents, Wed Nov 11 2026. No macro, syntax, notation, axiom, sorry.
-/
import Derived.Test.YtknbgpgoljfkjaaDoorRows
import GoSem.ClaimSeven
namespace Go.Proofs.YtknbgpgoljfkjaaDoor
namespace Rows

/-- THE TIED CARD OF 'pentaglotlaw19.ClockTimes'. -/
def clockTimesCard : Claim7 := { stood := { row := clockTimesRow, standIns := [], harness := (true, "c9a82cc7c827270b861c72562e30bd20cc2549cbe1c565115050fdda78df7009"), looks := false }, kinds := [], alts := [], laidByText := true, laidKinds := [.data], laidTests := true, laidLooks := .later }
def ClockTimesCardSaid : Prop := Claim7.holds Tryd.pinned (.plain (OpenSpec.ofChange clockTimesSpec)) clockTimesCard

/-- THE TIED CARD OF 'pentaglotlaw19.ClockPeriods'. -/
def clockPeriodsCard : Claim7 := { stood := { row := clockPeriodsRow, standIns := [], harness := (true, "c9a82cc7c827270b861c72562e30bd20cc2549cbe1c565115050fdda78df7009"), looks := false }, kinds := [], alts := [], laidByText := true, laidKinds := [.data], laidTests := true, laidLooks := .later }
def ClockPeriodsCardSaid : Prop := Claim7.holds Tryd.pinned (.plain (OpenSpec.ofChange clockPeriodsSpec)) clockPeriodsCard

/-- THE TIED CARD OF 'pentaglotlaw19.ClockSplits'. -/
def clockSplitsCard : Claim7 := { stood := { row := clockSplitsRow, standIns := [], harness := (true, "c9a82cc7c827270b861c72562e30bd20cc2549cbe1c565115050fdda78df7009"), looks := false }, kinds := [], alts := [], laidByText := true, laidKinds := [.data], laidTests := true, laidLooks := .later }
def ClockSplitsCardSaid : Prop := Claim7.holds Tryd.pinned (.plain (OpenSpec.ofChange clockSplitsSpec)) clockSplitsCard

/-- THE TIED CARD OF 'pentaglotlaw19.ClockMinutes'. -/
def clockMinutesCard : Claim7 := { stood := { row := clockMinutesRow, standIns := [], harness := (true, "c9a82cc7c827270b861c72562e30bd20cc2549cbe1c565115050fdda78df7009"), looks := false }, kinds := [], alts := [], laidByText := true, laidKinds := [.data], laidTests := true, laidLooks := .later }
def ClockMinutesCardSaid : Prop := Claim7.holds Tryd.pinned (.plain (OpenSpec.ofChange clockMinutesSpec)) clockMinutesCard

/-- THE TIED CARD OF 'pentaglotlaw19.ClockReadsBack'. -/
def clockReadsBackCard : Claim7 := { stood := { row := clockReadsBackRow, standIns := [], harness := (true, "c9a82cc7c827270b861c72562e30bd20cc2549cbe1c565115050fdda78df7009"), looks := false }, kinds := [], alts := [], laidByText := true, laidKinds := [.data], laidTests := true, laidLooks := .later }
def ClockReadsBackCardSaid : Prop := Claim7.holds Tryd.pinned (.plain (OpenSpec.ofChange clockReadsBackSpec)) clockReadsBackCard

/-- THE TIED CARD OF 'pentaglotlaw19.ClockConverts'. -/
def clockConvertsCard : Claim7 := { stood := { row := clockConvertsRow, standIns := [], harness := (true, "c9a82cc7c827270b861c72562e30bd20cc2549cbe1c565115050fdda78df7009"), looks := false }, kinds := [], alts := [], laidByText := true, laidKinds := [.data], laidTests := true, laidLooks := .later }
def ClockConvertsCardSaid : Prop := Claim7.holds Tryd.pinned (.plain (OpenSpec.ofChange clockConvertsSpec)) clockConvertsCard

/-- THE TIED CARD OF 'pentaglotlaw19.ClockUntil'. -/
def clockUntilCard : Claim7 := { stood := { row := clockUntilRow, standIns := [], harness := (true, "c9a82cc7c827270b861c72562e30bd20cc2549cbe1c565115050fdda78df7009"), looks := false }, kinds := [], alts := [], laidByText := true, laidKinds := [.data], laidTests := true, laidLooks := .later }
def ClockUntilCardSaid : Prop := Claim7.holds Tryd.pinned (.plain (OpenSpec.ofChange clockUntilSpec)) clockUntilCard

/-- THE TIED CARD OF 'pentaglotlaw19.ClockCompares'. -/
def clockComparesCard : Claim7 := { stood := { row := clockComparesRow, standIns := [], harness := (true, "c9a82cc7c827270b861c72562e30bd20cc2549cbe1c565115050fdda78df7009"), looks := false }, kinds := [], alts := [], laidByText := true, laidKinds := [.data], laidTests := true, laidLooks := .later }
def ClockComparesCardSaid : Prop := Claim7.holds Tryd.pinned (.plain (OpenSpec.ofChange clockComparesSpec)) clockComparesCard

/-- THE TIED CARD OF 'pentaglotlaw19.ClockThere'. -/
def clockThereCard : Claim7 := { stood := { row := clockThereRow, standIns := [], harness := (true, "c9a82cc7c827270b861c72562e30bd20cc2549cbe1c565115050fdda78df7009"), looks := false }, kinds := [], alts := [], laidByText := true, laidKinds := [.data], laidTests := true, laidLooks := .later }
def ClockThereCardSaid : Prop := Claim7.holds Tryd.pinned (.plain (OpenSpec.ofChange clockThereSpec)) clockThereCard

/-- THE SECOND FORM's CARD OF 'pentaglotlaw19.ClockTimes'. -/
def clockTimesUptoCard : Claim7 := { stood := { row := clockTimesUptoRow, standIns := [], harness := (true, "c9a82cc7c827270b861c72562e30bd20cc2549cbe1c565115050fdda78df7009"), looks := false }, kinds := [], alts := [], laidByText := true, laidKinds := [.data], laidTests := true, laidLooks := .later }
def ClockTimesUptoCardSaid : Prop := Claim7.holds Tryd.pinned (.plain (OpenSpec.upto clockTimesSpec)) clockTimesUptoCard

/-- THE SECOND FORM's CARD OF 'pentaglotlaw19.ClockPeriods'. -/
def clockPeriodsUptoCard : Claim7 := { stood := { row := clockPeriodsUptoRow, standIns := [], harness := (true, "c9a82cc7c827270b861c72562e30bd20cc2549cbe1c565115050fdda78df7009"), looks := false }, kinds := [], alts := [], laidByText := true, laidKinds := [.data], laidTests := true, laidLooks := .later }
def ClockPeriodsUptoCardSaid : Prop := Claim7.holds Tryd.pinned (.plain (OpenSpec.upto clockPeriodsSpec)) clockPeriodsUptoCard

/-- THE SECOND FORM's CARD OF 'pentaglotlaw19.ClockSplits'. -/
def clockSplitsUptoCard : Claim7 := { stood := { row := clockSplitsUptoRow, standIns := [], harness := (true, "c9a82cc7c827270b861c72562e30bd20cc2549cbe1c565115050fdda78df7009"), looks := false }, kinds := [], alts := [], laidByText := true, laidKinds := [.data], laidTests := true, laidLooks := .later }
def ClockSplitsUptoCardSaid : Prop := Claim7.holds Tryd.pinned (.plain (OpenSpec.upto clockSplitsSpec)) clockSplitsUptoCard

/-- THE SECOND FORM's CARD OF 'pentaglotlaw19.ClockMinutes'. -/
def clockMinutesUptoCard : Claim7 := { stood := { row := clockMinutesUptoRow, standIns := [], harness := (true, "c9a82cc7c827270b861c72562e30bd20cc2549cbe1c565115050fdda78df7009"), looks := false }, kinds := [], alts := [], laidByText := true, laidKinds := [.data], laidTests := true, laidLooks := .later }
def ClockMinutesUptoCardSaid : Prop := Claim7.holds Tryd.pinned (.plain (OpenSpec.upto clockMinutesSpec)) clockMinutesUptoCard

/-- THE SECOND FORM's CARD OF 'pentaglotlaw19.ClockReadsBack'. -/
def clockReadsBackUptoCard : Claim7 := { stood := { row := clockReadsBackUptoRow, standIns := [], harness := (true, "c9a82cc7c827270b861c72562e30bd20cc2549cbe1c565115050fdda78df7009"), looks := false }, kinds := [], alts := [], laidByText := true, laidKinds := [.data], laidTests := true, laidLooks := .later }
def ClockReadsBackUptoCardSaid : Prop := Claim7.holds Tryd.pinned (.plain (OpenSpec.upto clockReadsBackSpec)) clockReadsBackUptoCard

/-- THE SECOND FORM's CARD OF 'pentaglotlaw19.ClockConverts'. -/
def clockConvertsUptoCard : Claim7 := { stood := { row := clockConvertsUptoRow, standIns := [], harness := (true, "c9a82cc7c827270b861c72562e30bd20cc2549cbe1c565115050fdda78df7009"), looks := false }, kinds := [], alts := [], laidByText := true, laidKinds := [.data], laidTests := true, laidLooks := .later }
def ClockConvertsUptoCardSaid : Prop := Claim7.holds Tryd.pinned (.plain (OpenSpec.upto clockConvertsSpec)) clockConvertsUptoCard

/-- THE SECOND FORM's CARD OF 'pentaglotlaw19.ClockUntil'. -/
def clockUntilUptoCard : Claim7 := { stood := { row := clockUntilUptoRow, standIns := [], harness := (true, "c9a82cc7c827270b861c72562e30bd20cc2549cbe1c565115050fdda78df7009"), looks := false }, kinds := [], alts := [], laidByText := true, laidKinds := [.data], laidTests := true, laidLooks := .later }
def ClockUntilUptoCardSaid : Prop := Claim7.holds Tryd.pinned (.plain (OpenSpec.upto clockUntilSpec)) clockUntilUptoCard

/-- THE SECOND FORM's CARD OF 'pentaglotlaw19.ClockCompares'. -/
def clockComparesUptoCard : Claim7 := { stood := { row := clockComparesUptoRow, standIns := [], harness := (true, "c9a82cc7c827270b861c72562e30bd20cc2549cbe1c565115050fdda78df7009"), looks := false }, kinds := [], alts := [], laidByText := true, laidKinds := [.data], laidTests := true, laidLooks := .later }
def ClockComparesUptoCardSaid : Prop := Claim7.holds Tryd.pinned (.plain (OpenSpec.upto clockComparesSpec)) clockComparesUptoCard

/-- THE SECOND FORM's CARD OF 'pentaglotlaw19.ClockThere'. -/
def clockThereUptoCard : Claim7 := { stood := { row := clockThereUptoRow, standIns := [], harness := (true, "c9a82cc7c827270b861c72562e30bd20cc2549cbe1c565115050fdda78df7009"), looks := false }, kinds := [], alts := [], laidByText := true, laidKinds := [.data], laidTests := true, laidLooks := .later }
def ClockThereUptoCardSaid : Prop := Claim7.holds Tryd.pinned (.plain (OpenSpec.upto clockThereSpec)) clockThereUptoCard
end Rows
end Go.Proofs.YtknbgpgoljfkjaaDoor
