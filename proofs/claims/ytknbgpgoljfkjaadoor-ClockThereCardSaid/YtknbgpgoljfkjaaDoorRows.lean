/-
  NARROWER THAN 'FOR EVERY INPUT', by the rows' own cells (each row's printed sentence says how): ClockTimes: laid · ClockPeriods: laid · ClockSplits: laid · ClockMinutes: laid · ClockReadsBack: laid · ClockConverts: laid · ClockUntil: laid · ClockCompares: laid · ClockThere: laid.
  DERIVED. THE GIVEN ROWS OF THIS SEAT. 9 by the template 'for every input the law returns true; each argument reads behind the call as it read before'; 0 by the template 'total and deterministic' (their statements: YtknbgpgoljfkjaaDoorTotals.lean).
  GIVEN WITH THE SEED: the statements are not yours to turn. If you find one false, say at which input.
  Laid BY PROGRAM, IN A SANDBOX (cutbox-rows.mjs): the forced cells as the released guide's own fill.sh prints them over the translation ebada58ca3118ed9… (all of the seat's roots in one cut). By AI agents, Wed Nov 11 2026. No macro, syntax, notation, axiom, sorry.
-/
import Derived.Test.YtknbgpgoljfkjaaDoorChecked
import GoSem.Claim
import GoSem.ClaimJoined
import GoSem.ClaimMapViews
import Derived.JoinedTies
import Derived.KernelRfl
namespace Go.Proofs.YtknbgpgoljfkjaaDoor
/- THE CELL 'sum', in the pinned program and in every row, IS THE sha256 OF THE DUMP (.gsa) THAT YtknbgpgoljfkjaaDoorProg.lean LOADS. Nothing in Lean hashes anything: it is a label: what it is worth is what the hold of that sum in a sandbox is worth. -/
noncomputable def Tryd.pinned : Pinned := { name := "ytknbgpgoljfkjaadoor", sum := "ebada58ca3118ed9be2305a194c6c19e0ad3628344ae00cd41db39b10c7cadb1", checked := Tryd.checked }
namespace Rows
def none {H : Type} : Left H := { results := [], args := [] }

/- WHAT THE LISTED PACKAGE-LEVEL VARIABLES READ AS WHEN THE CALL BEGINS. Each datum BY PROGRAM (the guide's laid-datum.mjs) off the statement by which the dump's own 'gosem.cut.vars' lays the variable. In a bare row this is a premise. The card (YtknbgpgoljfkjaaDoorCards.lean) ties it to the program's text. -/
def laid_pentaglot_clock_periods {H : Type} : DataW H := .agg [.lit (.int .i64 0), .lit (.int .i64 1), .lit (.int .i64 2), .lit (.int .i64 6)]

/-- 'pentaglotlaw19.ClockTimes': WHATEVER THE INPUT: true; the input reads as it did. -/
def clockTimesSpec : ChangeSpec := { name := "clockTimes", fn := fun _ => fun
  | [d1, d2] => { results := [.lit (.bool true)], args := [d1, d2] }
  | _ => none }
def clockTimesRow : OpenClaim := { program := "ytknbgpgoljfkjaadoor", sum := "ebada58ca3118ed9be2305a194c6c19e0ad3628344ae00cd41db39b10c7cadb1", func := "pentaglot/pentaglotlaw19.ClockTimes", spec := "clockTimes", named := ["pentaglot/clock.periods"], apart := false, laid := [("pentaglot/clock.periods", laid_pentaglot_clock_periods)] }
def ClockTimesSaid : Prop := clockTimesRow.holds Tryd.pinned (OpenSpec.ofChange clockTimesSpec)

/-- ITS FALSE NEIGHBOUR: 'it returns false'. Refute it at one input. -/
def clockTimesWrong : ChangeSpec := { name := "clockTimes", fn := fun _ => fun
  | [d1, d2] => { results := [.lit (.bool false)], args := [d1, d2] }
  | _ => none }
def ClockTimesWrongFalsely : Prop := clockTimesRow.holds Tryd.pinned (OpenSpec.ofChange clockTimesWrong)

/-- 'pentaglotlaw19.ClockPeriods': WHATEVER THE INPUT: true; the input reads as it did. -/
def clockPeriodsSpec : ChangeSpec := { name := "clockPeriods", fn := fun _ => fun
  | [d] => { results := [.lit (.bool true)], args := [d] }
  | _ => none }
def clockPeriodsRow : OpenClaim := { program := "ytknbgpgoljfkjaadoor", sum := "ebada58ca3118ed9be2305a194c6c19e0ad3628344ae00cd41db39b10c7cadb1", func := "pentaglot/pentaglotlaw19.ClockPeriods", spec := "clockPeriods", named := ["pentaglot/clock.periods"], apart := false, laid := [("pentaglot/clock.periods", laid_pentaglot_clock_periods)] }
def ClockPeriodsSaid : Prop := clockPeriodsRow.holds Tryd.pinned (OpenSpec.ofChange clockPeriodsSpec)

/-- ITS FALSE NEIGHBOUR: 'it returns false'. Refute it at one input. -/
def clockPeriodsWrong : ChangeSpec := { name := "clockPeriods", fn := fun _ => fun
  | [d] => { results := [.lit (.bool false)], args := [d] }
  | _ => none }
def ClockPeriodsWrongFalsely : Prop := clockPeriodsRow.holds Tryd.pinned (OpenSpec.ofChange clockPeriodsWrong)

/-- 'pentaglotlaw19.ClockSplits': WHATEVER THE INPUT: true; the input reads as it did. -/
def clockSplitsSpec : ChangeSpec := { name := "clockSplits", fn := fun _ => fun
  | [d] => { results := [.lit (.bool true)], args := [d] }
  | _ => none }
def clockSplitsRow : OpenClaim := { program := "ytknbgpgoljfkjaadoor", sum := "ebada58ca3118ed9be2305a194c6c19e0ad3628344ae00cd41db39b10c7cadb1", func := "pentaglot/pentaglotlaw19.ClockSplits", spec := "clockSplits", named := ["pentaglot/clock.periods"], apart := false, laid := [("pentaglot/clock.periods", laid_pentaglot_clock_periods)] }
def ClockSplitsSaid : Prop := clockSplitsRow.holds Tryd.pinned (OpenSpec.ofChange clockSplitsSpec)

/-- ITS FALSE NEIGHBOUR: 'it returns false'. Refute it at one input. -/
def clockSplitsWrong : ChangeSpec := { name := "clockSplits", fn := fun _ => fun
  | [d] => { results := [.lit (.bool false)], args := [d] }
  | _ => none }
def ClockSplitsWrongFalsely : Prop := clockSplitsRow.holds Tryd.pinned (OpenSpec.ofChange clockSplitsWrong)

/-- 'pentaglotlaw19.ClockMinutes': WHATEVER THE INPUT: true; the input reads as it did. -/
def clockMinutesSpec : ChangeSpec := { name := "clockMinutes", fn := fun _ => fun
  | [d] => { results := [.lit (.bool true)], args := [d] }
  | _ => none }
def clockMinutesRow : OpenClaim := { program := "ytknbgpgoljfkjaadoor", sum := "ebada58ca3118ed9be2305a194c6c19e0ad3628344ae00cd41db39b10c7cadb1", func := "pentaglot/pentaglotlaw19.ClockMinutes", spec := "clockMinutes", named := ["pentaglot/clock.periods"], apart := false, laid := [("pentaglot/clock.periods", laid_pentaglot_clock_periods)] }
def ClockMinutesSaid : Prop := clockMinutesRow.holds Tryd.pinned (OpenSpec.ofChange clockMinutesSpec)

/-- ITS FALSE NEIGHBOUR: 'it returns false'. Refute it at one input. -/
def clockMinutesWrong : ChangeSpec := { name := "clockMinutes", fn := fun _ => fun
  | [d] => { results := [.lit (.bool false)], args := [d] }
  | _ => none }
def ClockMinutesWrongFalsely : Prop := clockMinutesRow.holds Tryd.pinned (OpenSpec.ofChange clockMinutesWrong)

/-- 'pentaglotlaw19.ClockReadsBack': WHATEVER THE INPUT: true; the input reads as it did. -/
def clockReadsBackSpec : ChangeSpec := { name := "clockReadsBack", fn := fun _ => fun
  | [d1, d2] => { results := [.lit (.bool true)], args := [d1, d2] }
  | _ => none }
def clockReadsBackRow : OpenClaim := { program := "ytknbgpgoljfkjaadoor", sum := "ebada58ca3118ed9be2305a194c6c19e0ad3628344ae00cd41db39b10c7cadb1", func := "pentaglot/pentaglotlaw19.ClockReadsBack", spec := "clockReadsBack", named := ["pentaglot/clock.periods"], apart := false, laid := [("pentaglot/clock.periods", laid_pentaglot_clock_periods)] }
def ClockReadsBackSaid : Prop := clockReadsBackRow.holds Tryd.pinned (OpenSpec.ofChange clockReadsBackSpec)

/-- ITS FALSE NEIGHBOUR: 'it returns false'. Refute it at one input. -/
def clockReadsBackWrong : ChangeSpec := { name := "clockReadsBack", fn := fun _ => fun
  | [d1, d2] => { results := [.lit (.bool false)], args := [d1, d2] }
  | _ => none }
def ClockReadsBackWrongFalsely : Prop := clockReadsBackRow.holds Tryd.pinned (OpenSpec.ofChange clockReadsBackWrong)

/-- 'pentaglotlaw19.ClockConverts': WHATEVER THE INPUT: true; the input reads as it did. -/
def clockConvertsSpec : ChangeSpec := { name := "clockConverts", fn := fun _ => fun
  | [d1, d2] => { results := [.lit (.bool true)], args := [d1, d2] }
  | _ => none }
def clockConvertsRow : OpenClaim := { program := "ytknbgpgoljfkjaadoor", sum := "ebada58ca3118ed9be2305a194c6c19e0ad3628344ae00cd41db39b10c7cadb1", func := "pentaglot/pentaglotlaw19.ClockConverts", spec := "clockConverts", named := ["pentaglot/clock.periods"], apart := false, laid := [("pentaglot/clock.periods", laid_pentaglot_clock_periods)] }
def ClockConvertsSaid : Prop := clockConvertsRow.holds Tryd.pinned (OpenSpec.ofChange clockConvertsSpec)

/-- ITS FALSE NEIGHBOUR: 'it returns false'. Refute it at one input. -/
def clockConvertsWrong : ChangeSpec := { name := "clockConverts", fn := fun _ => fun
  | [d1, d2] => { results := [.lit (.bool false)], args := [d1, d2] }
  | _ => none }
def ClockConvertsWrongFalsely : Prop := clockConvertsRow.holds Tryd.pinned (OpenSpec.ofChange clockConvertsWrong)

/-- 'pentaglotlaw19.ClockUntil': WHATEVER THE INPUT: true; the input reads as it did. -/
def clockUntilSpec : ChangeSpec := { name := "clockUntil", fn := fun _ => fun
  | [d1, d2] => { results := [.lit (.bool true)], args := [d1, d2] }
  | _ => none }
def clockUntilRow : OpenClaim := { program := "ytknbgpgoljfkjaadoor", sum := "ebada58ca3118ed9be2305a194c6c19e0ad3628344ae00cd41db39b10c7cadb1", func := "pentaglot/pentaglotlaw19.ClockUntil", spec := "clockUntil", named := ["pentaglot/clock.periods"], apart := false, laid := [("pentaglot/clock.periods", laid_pentaglot_clock_periods)] }
def ClockUntilSaid : Prop := clockUntilRow.holds Tryd.pinned (OpenSpec.ofChange clockUntilSpec)

/-- ITS FALSE NEIGHBOUR: 'it returns false'. Refute it at one input. -/
def clockUntilWrong : ChangeSpec := { name := "clockUntil", fn := fun _ => fun
  | [d1, d2] => { results := [.lit (.bool false)], args := [d1, d2] }
  | _ => none }
def ClockUntilWrongFalsely : Prop := clockUntilRow.holds Tryd.pinned (OpenSpec.ofChange clockUntilWrong)

/-- 'pentaglotlaw19.ClockCompares': WHATEVER THE INPUT: true; the input reads as it did. -/
def clockComparesSpec : ChangeSpec := { name := "clockCompares", fn := fun _ => fun
  | [d1, d2] => { results := [.lit (.bool true)], args := [d1, d2] }
  | _ => none }
def clockComparesRow : OpenClaim := { program := "ytknbgpgoljfkjaadoor", sum := "ebada58ca3118ed9be2305a194c6c19e0ad3628344ae00cd41db39b10c7cadb1", func := "pentaglot/pentaglotlaw19.ClockCompares", spec := "clockCompares", named := ["pentaglot/clock.periods"], apart := false, laid := [("pentaglot/clock.periods", laid_pentaglot_clock_periods)] }
def ClockComparesSaid : Prop := clockComparesRow.holds Tryd.pinned (OpenSpec.ofChange clockComparesSpec)

/-- ITS FALSE NEIGHBOUR: 'it returns false'. Refute it at one input. -/
def clockComparesWrong : ChangeSpec := { name := "clockCompares", fn := fun _ => fun
  | [d1, d2] => { results := [.lit (.bool false)], args := [d1, d2] }
  | _ => none }
def ClockComparesWrongFalsely : Prop := clockComparesRow.holds Tryd.pinned (OpenSpec.ofChange clockComparesWrong)

/-- 'pentaglotlaw19.ClockThere': WHATEVER THE INPUT: true; the input reads as it did. -/
def clockThereSpec : ChangeSpec := { name := "clockThere", fn := fun _ => fun
  | [d1, d2, d3] => { results := [.lit (.bool true)], args := [d1, d2, d3] }
  | _ => none }
def clockThereRow : OpenClaim := { program := "ytknbgpgoljfkjaadoor", sum := "ebada58ca3118ed9be2305a194c6c19e0ad3628344ae00cd41db39b10c7cadb1", func := "pentaglot/pentaglotlaw19.ClockThere", spec := "clockThere", named := ["pentaglot/clock.periods"], apart := false, laid := [("pentaglot/clock.periods", laid_pentaglot_clock_periods)] }
def ClockThereSaid : Prop := clockThereRow.holds Tryd.pinned (OpenSpec.ofChange clockThereSpec)

/-- ITS FALSE NEIGHBOUR: 'it returns false'. Refute it at one input. -/
def clockThereWrong : ChangeSpec := { name := "clockThere", fn := fun _ => fun
  | [d1, d2, d3] => { results := [.lit (.bool false)], args := [d1, d2, d3] }
  | _ => none }
def ClockThereWrongFalsely : Prop := clockThereRow.holds Tryd.pinned (OpenSpec.ofChange clockThereWrong)

/- THE SECOND FORM. 'bulk': how many values and letters a reading holds, each counted each time it is reached (what is shared counts as often as it is met; a slice's spare places count too). A statement '..UptoSaid' is the law's where the arguments, and the package variables that the reading takes, are together of bulk at most 1048576: NARROWER than '..Said'. Prove '..Said' where nothing that the law and all that it calls make is longer than what came in: it says more and counts as full. Else prove '..UptoSaid'. A law counts once. -/
mutual
def uptoBulk {H : Type} : DataW H → Nat
  | .lit (.string bytes) => bytes.length + 1
  | .lit _ => 1
  | .nil => 1
  | .ptr d => uptoBulk d + 1
  | .slice elems spare => uptoBulkAll elems + uptoBulkAll spare + 1
  | .agg parts => uptoBulkAll parts + 1
  | .iface _ d => uptoBulk d + 1
  | .map entries => uptoBulkEntries entries + 1
  | .held _ => 1
def uptoBulkAll {H : Type} : List (DataW H) → Nat
  | [] => 0
  | d :: r => uptoBulk d + uptoBulkAll r
def uptoBulkEntries {H : Type} : List (Lit × DataW H) → Nat
  | [] => 0
  | x :: r => uptoBulkEntry x + uptoBulkEntries r
def uptoBulkEntry {H : Type} : Lit × DataW H → Nat
  | (.string bytes, d) => bytes.length + uptoBulk d + 1
  | (_, d) => uptoBulk d + 1
 end
def uptoSmall : (H : Type) → List (DataW H) → Bool := fun _ ds => decide (uptoBulkAll ds ≤ 1048576)
def OpenSpec.upto (s : _root_.Go.ChangeSpec) : _root_.Go.OpenSpec := { _root_.Go.OpenSpec.ofChange s with cond := some uptoSmall }

/-- 'pentaglotlaw19.ClockTimes', WHERE WHAT IT READS IS OF BULK AT MOST 1048576: true; the input reads as it did. -/
def clockTimesUptoRow : OpenClaim := { program := "ytknbgpgoljfkjaadoor", sum := "ebada58ca3118ed9be2305a194c6c19e0ad3628344ae00cd41db39b10c7cadb1", func := "pentaglot/pentaglotlaw19.ClockTimes", spec := "clockTimes", named := ["pentaglot/clock.periods"], apart := false, laid := [("pentaglot/clock.periods", laid_pentaglot_clock_periods)], narrowed := true }
def ClockTimesUptoSaid : Prop := clockTimesUptoRow.holds Tryd.pinned (OpenSpec.upto clockTimesSpec)

/-- 'pentaglotlaw19.ClockPeriods', WHERE WHAT IT READS IS OF BULK AT MOST 1048576: true; the input reads as it did. -/
def clockPeriodsUptoRow : OpenClaim := { program := "ytknbgpgoljfkjaadoor", sum := "ebada58ca3118ed9be2305a194c6c19e0ad3628344ae00cd41db39b10c7cadb1", func := "pentaglot/pentaglotlaw19.ClockPeriods", spec := "clockPeriods", named := ["pentaglot/clock.periods"], apart := false, laid := [("pentaglot/clock.periods", laid_pentaglot_clock_periods)], narrowed := true }
def ClockPeriodsUptoSaid : Prop := clockPeriodsUptoRow.holds Tryd.pinned (OpenSpec.upto clockPeriodsSpec)

/-- 'pentaglotlaw19.ClockSplits', WHERE WHAT IT READS IS OF BULK AT MOST 1048576: true; the input reads as it did. -/
def clockSplitsUptoRow : OpenClaim := { program := "ytknbgpgoljfkjaadoor", sum := "ebada58ca3118ed9be2305a194c6c19e0ad3628344ae00cd41db39b10c7cadb1", func := "pentaglot/pentaglotlaw19.ClockSplits", spec := "clockSplits", named := ["pentaglot/clock.periods"], apart := false, laid := [("pentaglot/clock.periods", laid_pentaglot_clock_periods)], narrowed := true }
def ClockSplitsUptoSaid : Prop := clockSplitsUptoRow.holds Tryd.pinned (OpenSpec.upto clockSplitsSpec)

/-- 'pentaglotlaw19.ClockMinutes', WHERE WHAT IT READS IS OF BULK AT MOST 1048576: true; the input reads as it did. -/
def clockMinutesUptoRow : OpenClaim := { program := "ytknbgpgoljfkjaadoor", sum := "ebada58ca3118ed9be2305a194c6c19e0ad3628344ae00cd41db39b10c7cadb1", func := "pentaglot/pentaglotlaw19.ClockMinutes", spec := "clockMinutes", named := ["pentaglot/clock.periods"], apart := false, laid := [("pentaglot/clock.periods", laid_pentaglot_clock_periods)], narrowed := true }
def ClockMinutesUptoSaid : Prop := clockMinutesUptoRow.holds Tryd.pinned (OpenSpec.upto clockMinutesSpec)

/-- 'pentaglotlaw19.ClockReadsBack', WHERE WHAT IT READS IS OF BULK AT MOST 1048576: true; the input reads as it did. -/
def clockReadsBackUptoRow : OpenClaim := { program := "ytknbgpgoljfkjaadoor", sum := "ebada58ca3118ed9be2305a194c6c19e0ad3628344ae00cd41db39b10c7cadb1", func := "pentaglot/pentaglotlaw19.ClockReadsBack", spec := "clockReadsBack", named := ["pentaglot/clock.periods"], apart := false, laid := [("pentaglot/clock.periods", laid_pentaglot_clock_periods)], narrowed := true }
def ClockReadsBackUptoSaid : Prop := clockReadsBackUptoRow.holds Tryd.pinned (OpenSpec.upto clockReadsBackSpec)

/-- 'pentaglotlaw19.ClockConverts', WHERE WHAT IT READS IS OF BULK AT MOST 1048576: true; the input reads as it did. -/
def clockConvertsUptoRow : OpenClaim := { program := "ytknbgpgoljfkjaadoor", sum := "ebada58ca3118ed9be2305a194c6c19e0ad3628344ae00cd41db39b10c7cadb1", func := "pentaglot/pentaglotlaw19.ClockConverts", spec := "clockConverts", named := ["pentaglot/clock.periods"], apart := false, laid := [("pentaglot/clock.periods", laid_pentaglot_clock_periods)], narrowed := true }
def ClockConvertsUptoSaid : Prop := clockConvertsUptoRow.holds Tryd.pinned (OpenSpec.upto clockConvertsSpec)

/-- 'pentaglotlaw19.ClockUntil', WHERE WHAT IT READS IS OF BULK AT MOST 1048576: true; the input reads as it did. -/
def clockUntilUptoRow : OpenClaim := { program := "ytknbgpgoljfkjaadoor", sum := "ebada58ca3118ed9be2305a194c6c19e0ad3628344ae00cd41db39b10c7cadb1", func := "pentaglot/pentaglotlaw19.ClockUntil", spec := "clockUntil", named := ["pentaglot/clock.periods"], apart := false, laid := [("pentaglot/clock.periods", laid_pentaglot_clock_periods)], narrowed := true }
def ClockUntilUptoSaid : Prop := clockUntilUptoRow.holds Tryd.pinned (OpenSpec.upto clockUntilSpec)

/-- 'pentaglotlaw19.ClockCompares', WHERE WHAT IT READS IS OF BULK AT MOST 1048576: true; the input reads as it did. -/
def clockComparesUptoRow : OpenClaim := { program := "ytknbgpgoljfkjaadoor", sum := "ebada58ca3118ed9be2305a194c6c19e0ad3628344ae00cd41db39b10c7cadb1", func := "pentaglot/pentaglotlaw19.ClockCompares", spec := "clockCompares", named := ["pentaglot/clock.periods"], apart := false, laid := [("pentaglot/clock.periods", laid_pentaglot_clock_periods)], narrowed := true }
def ClockComparesUptoSaid : Prop := clockComparesUptoRow.holds Tryd.pinned (OpenSpec.upto clockComparesSpec)

/-- 'pentaglotlaw19.ClockThere', WHERE WHAT IT READS IS OF BULK AT MOST 1048576: true; the input reads as it did. -/
def clockThereUptoRow : OpenClaim := { program := "ytknbgpgoljfkjaadoor", sum := "ebada58ca3118ed9be2305a194c6c19e0ad3628344ae00cd41db39b10c7cadb1", func := "pentaglot/pentaglotlaw19.ClockThere", spec := "clockThere", named := ["pentaglot/clock.periods"], apart := false, laid := [("pentaglot/clock.periods", laid_pentaglot_clock_periods)], narrowed := true }
def ClockThereUptoSaid : Prop := clockThereUptoRow.holds Tryd.pinned (OpenSpec.upto clockThereSpec)

end Rows
end Go.Proofs.YtknbgpgoljfkjaaDoor
