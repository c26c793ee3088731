/-
  No cell of these rows narrows 'for every input' (looked for: loops, veiled, ifaces, maps, wideKeys, modest, calm, conditions, laid).
  DERIVED. THE GIVEN ROWS OF THIS SEAT. 10 by the template 'for every input the law returns true; each argument reads behind the call as it read before'; 0 by the template 'total and deterministic' (their statements: YtfpegmnjplagfaaTotals.lean).
  GIVEN WITH THE SEED: the statements are not yours to turn. If you find one false, say at which input.
  Laid BY PROGRAM, IN A SANDBOX (cutbox-rows.mjs): the forced cells as the released guide's own fill.sh prints them over the translation 6e8ce15941449308… (all of the seat's roots in one cut). By AI agents, Wed Nov 11 2026. No macro, syntax, notation, axiom, sorry.
-/
import Derived.Test.YtfpegmnjplagfaaChecked
import GoSem.Claim
import GoSem.ClaimJoined
import GoSem.ClaimMapViews
import Derived.JoinedTies
import Derived.KernelRfl
namespace Go.Proofs.Ytfpegmnjplagfaa
/- THE CELL 'sum', in the pinned program and in every row, IS THE sha256 OF THE DUMP (.gsa) THAT YtfpegmnjplagfaaProg.lean LOADS. Nothing in Lean hashes anything: it is a label: what it is worth is what the hold of that sum in a sandbox is worth. -/
noncomputable def Try.pinned : Pinned := { name := "ytfpegmnjplagfaa", sum := "6e8ce15941449308d8d7534526aec8de86874726d7ce9790adb508eb0dd82c1d", checked := Try.checked }
namespace Rows
def none {H : Type} : Left H := { results := [], args := [] }

/-- 'pentaglotlaw18.LunisolarLeaps': WHATEVER THE INPUT: true; the input reads as it did. -/
def lunisolarLeapsSpec : ChangeSpec := { name := "lunisolarLeaps", fn := fun _ => fun
  | [d] => { results := [.lit (.bool true)], args := [d] }
  | _ => none }
def lunisolarLeapsRow : OpenClaim := { program := "ytfpegmnjplagfaa", sum := "6e8ce15941449308d8d7534526aec8de86874726d7ce9790adb508eb0dd82c1d", func := "pentaglot/pentaglotlaw18.LunisolarLeaps", spec := "lunisolarLeaps", unfollowed := true, recurses := true, apart := false }
def LunisolarLeapsSaid : Prop := lunisolarLeapsRow.holds Try.pinned (OpenSpec.ofChange lunisolarLeapsSpec)

/-- ITS FALSE NEIGHBOUR: 'it returns false'. Refute it at one input. -/
def lunisolarLeapsWrong : ChangeSpec := { name := "lunisolarLeaps", fn := fun _ => fun
  | [d] => { results := [.lit (.bool false)], args := [d] }
  | _ => none }
def LunisolarLeapsWrongFalsely : Prop := lunisolarLeapsRow.holds Try.pinned (OpenSpec.ofChange lunisolarLeapsWrong)

/-- 'pentaglotlaw18.LunisolarYears': WHATEVER THE INPUT: true; the input reads as it did. -/
def lunisolarYearsSpec : ChangeSpec := { name := "lunisolarYears", fn := fun _ => fun
  | [d] => { results := [.lit (.bool true)], args := [d] }
  | _ => none }
def lunisolarYearsRow : OpenClaim := { program := "ytfpegmnjplagfaa", sum := "6e8ce15941449308d8d7534526aec8de86874726d7ce9790adb508eb0dd82c1d", func := "pentaglot/pentaglotlaw18.LunisolarYears", spec := "lunisolarYears", unfollowed := true, recurses := true, apart := false }
def LunisolarYearsSaid : Prop := lunisolarYearsRow.holds Try.pinned (OpenSpec.ofChange lunisolarYearsSpec)

/-- ITS FALSE NEIGHBOUR: 'it returns false'. Refute it at one input. -/
def lunisolarYearsWrong : ChangeSpec := { name := "lunisolarYears", fn := fun _ => fun
  | [d] => { results := [.lit (.bool false)], args := [d] }
  | _ => none }
def LunisolarYearsWrongFalsely : Prop := lunisolarYearsRow.holds Try.pinned (OpenSpec.ofChange lunisolarYearsWrong)

/-- 'pentaglotlaw18.LunisolarMonths': WHATEVER THE INPUT: true; the input reads as it did. -/
def lunisolarMonthsSpec : ChangeSpec := { name := "lunisolarMonths", fn := fun _ => fun
  | [d] => { results := [.lit (.bool true)], args := [d] }
  | _ => none }
def lunisolarMonthsRow : OpenClaim := { program := "ytfpegmnjplagfaa", sum := "6e8ce15941449308d8d7534526aec8de86874726d7ce9790adb508eb0dd82c1d", func := "pentaglot/pentaglotlaw18.LunisolarMonths", spec := "lunisolarMonths", unfollowed := true, recurses := true, apart := false }
def LunisolarMonthsSaid : Prop := lunisolarMonthsRow.holds Try.pinned (OpenSpec.ofChange lunisolarMonthsSpec)

/-- ITS FALSE NEIGHBOUR: 'it returns false'. Refute it at one input. -/
def lunisolarMonthsWrong : ChangeSpec := { name := "lunisolarMonths", fn := fun _ => fun
  | [d] => { results := [.lit (.bool false)], args := [d] }
  | _ => none }
def LunisolarMonthsWrongFalsely : Prop := lunisolarMonthsRow.holds Try.pinned (OpenSpec.ofChange lunisolarMonthsWrong)

/-- 'pentaglotlaw18.LunisolarMonthDays': WHATEVER THE INPUT: true; the input reads as it did. -/
def lunisolarMonthDaysSpec : ChangeSpec := { name := "lunisolarMonthDays", fn := fun _ => fun
  | [d1, d2] => { results := [.lit (.bool true)], args := [d1, d2] }
  | _ => none }
def lunisolarMonthDaysRow : OpenClaim := { program := "ytfpegmnjplagfaa", sum := "6e8ce15941449308d8d7534526aec8de86874726d7ce9790adb508eb0dd82c1d", func := "pentaglot/pentaglotlaw18.LunisolarMonthDays", spec := "lunisolarMonthDays", unfollowed := true, recurses := true, apart := false }
def LunisolarMonthDaysSaid : Prop := lunisolarMonthDaysRow.holds Try.pinned (OpenSpec.ofChange lunisolarMonthDaysSpec)

/-- ITS FALSE NEIGHBOUR: 'it returns false'. Refute it at one input. -/
def lunisolarMonthDaysWrong : ChangeSpec := { name := "lunisolarMonthDays", fn := fun _ => fun
  | [d1, d2] => { results := [.lit (.bool false)], args := [d1, d2] }
  | _ => none }
def LunisolarMonthDaysWrongFalsely : Prop := lunisolarMonthDaysRow.holds Try.pinned (OpenSpec.ofChange lunisolarMonthDaysWrong)

/-- 'pentaglotlaw18.LunisolarDates': WHATEVER THE INPUT: true; the input reads as it did. -/
def lunisolarDatesSpec : ChangeSpec := { name := "lunisolarDates", fn := fun _ => fun
  | [d] => { results := [.lit (.bool true)], args := [d] }
  | _ => none }
def lunisolarDatesRow : OpenClaim := { program := "ytfpegmnjplagfaa", sum := "6e8ce15941449308d8d7534526aec8de86874726d7ce9790adb508eb0dd82c1d", func := "pentaglot/pentaglotlaw18.LunisolarDates", spec := "lunisolarDates", unfollowed := true, recurses := true, apart := false }
def LunisolarDatesSaid : Prop := lunisolarDatesRow.holds Try.pinned (OpenSpec.ofChange lunisolarDatesSpec)

/-- ITS FALSE NEIGHBOUR: 'it returns false'. Refute it at one input. -/
def lunisolarDatesWrong : ChangeSpec := { name := "lunisolarDates", fn := fun _ => fun
  | [d] => { results := [.lit (.bool false)], args := [d] }
  | _ => none }
def LunisolarDatesWrongFalsely : Prop := lunisolarDatesRow.holds Try.pinned (OpenSpec.ofChange lunisolarDatesWrong)

/-- 'pentaglotlaw18.LunisolarDays': WHATEVER THE INPUT: true; the input reads as it did. -/
def lunisolarDaysSpec : ChangeSpec := { name := "lunisolarDays", fn := fun _ => fun
  | [d] => { results := [.lit (.bool true)], args := [d] }
  | _ => none }
def lunisolarDaysRow : OpenClaim := { program := "ytfpegmnjplagfaa", sum := "6e8ce15941449308d8d7534526aec8de86874726d7ce9790adb508eb0dd82c1d", func := "pentaglot/pentaglotlaw18.LunisolarDays", spec := "lunisolarDays", unfollowed := true, recurses := true, apart := false }
def LunisolarDaysSaid : Prop := lunisolarDaysRow.holds Try.pinned (OpenSpec.ofChange lunisolarDaysSpec)

/-- ITS FALSE NEIGHBOUR: 'it returns false'. Refute it at one input. -/
def lunisolarDaysWrong : ChangeSpec := { name := "lunisolarDays", fn := fun _ => fun
  | [d] => { results := [.lit (.bool false)], args := [d] }
  | _ => none }
def LunisolarDaysWrongFalsely : Prop := lunisolarDaysRow.holds Try.pinned (OpenSpec.ofChange lunisolarDaysWrong)

/-- 'pentaglotlaw18.LunisolarInverts': WHATEVER THE INPUT: true; the input reads as it did. -/
def lunisolarInvertsSpec : ChangeSpec := { name := "lunisolarInverts", fn := fun _ => fun
  | [d1, d2] => { results := [.lit (.bool true)], args := [d1, d2] }
  | _ => none }
def lunisolarInvertsRow : OpenClaim := { program := "ytfpegmnjplagfaa", sum := "6e8ce15941449308d8d7534526aec8de86874726d7ce9790adb508eb0dd82c1d", func := "pentaglot/pentaglotlaw18.LunisolarInverts", spec := "lunisolarInverts", unfollowed := true, recurses := true, apart := false }
def LunisolarInvertsSaid : Prop := lunisolarInvertsRow.holds Try.pinned (OpenSpec.ofChange lunisolarInvertsSpec)

/-- ITS FALSE NEIGHBOUR: 'it returns false'. Refute it at one input. -/
def lunisolarInvertsWrong : ChangeSpec := { name := "lunisolarInverts", fn := fun _ => fun
  | [d1, d2] => { results := [.lit (.bool false)], args := [d1, d2] }
  | _ => none }
def LunisolarInvertsWrongFalsely : Prop := lunisolarInvertsRow.holds Try.pinned (OpenSpec.ofChange lunisolarInvertsWrong)

/-- 'pentaglotlaw18.LunisolarFollows': WHATEVER THE INPUT: true; the input reads as it did. -/
def lunisolarFollowsSpec : ChangeSpec := { name := "lunisolarFollows", fn := fun _ => fun
  | [d] => { results := [.lit (.bool true)], args := [d] }
  | _ => none }
def lunisolarFollowsRow : OpenClaim := { program := "ytfpegmnjplagfaa", sum := "6e8ce15941449308d8d7534526aec8de86874726d7ce9790adb508eb0dd82c1d", func := "pentaglot/pentaglotlaw18.LunisolarFollows", spec := "lunisolarFollows", unfollowed := true, recurses := true, apart := false }
def LunisolarFollowsSaid : Prop := lunisolarFollowsRow.holds Try.pinned (OpenSpec.ofChange lunisolarFollowsSpec)

/-- ITS FALSE NEIGHBOUR: 'it returns false'. Refute it at one input. -/
def lunisolarFollowsWrong : ChangeSpec := { name := "lunisolarFollows", fn := fun _ => fun
  | [d] => { results := [.lit (.bool false)], args := [d] }
  | _ => none }
def LunisolarFollowsWrongFalsely : Prop := lunisolarFollowsRow.holds Try.pinned (OpenSpec.ofChange lunisolarFollowsWrong)

/-- 'pentaglotlaw18.LunisolarRepeats': WHATEVER THE INPUT: true; the input reads as it did. -/
def lunisolarRepeatsSpec : ChangeSpec := { name := "lunisolarRepeats", fn := fun _ => fun
  | [d] => { results := [.lit (.bool true)], args := [d] }
  | _ => none }
def lunisolarRepeatsRow : OpenClaim := { program := "ytfpegmnjplagfaa", sum := "6e8ce15941449308d8d7534526aec8de86874726d7ce9790adb508eb0dd82c1d", func := "pentaglot/pentaglotlaw18.LunisolarRepeats", spec := "lunisolarRepeats", unfollowed := true, recurses := true, apart := false }
def LunisolarRepeatsSaid : Prop := lunisolarRepeatsRow.holds Try.pinned (OpenSpec.ofChange lunisolarRepeatsSpec)

/-- ITS FALSE NEIGHBOUR: 'it returns false'. Refute it at one input. -/
def lunisolarRepeatsWrong : ChangeSpec := { name := "lunisolarRepeats", fn := fun _ => fun
  | [d] => { results := [.lit (.bool false)], args := [d] }
  | _ => none }
def LunisolarRepeatsWrongFalsely : Prop := lunisolarRepeatsRow.holds Try.pinned (OpenSpec.ofChange lunisolarRepeatsWrong)

/-- 'pentaglotlaw18.LunisolarCompares': WHATEVER THE INPUT: true; the input reads as it did. -/
def lunisolarComparesSpec : ChangeSpec := { name := "lunisolarCompares", fn := fun _ => fun
  | [d1, d2] => { results := [.lit (.bool true)], args := [d1, d2] }
  | _ => none }
def lunisolarComparesRow : OpenClaim := { program := "ytfpegmnjplagfaa", sum := "6e8ce15941449308d8d7534526aec8de86874726d7ce9790adb508eb0dd82c1d", func := "pentaglot/pentaglotlaw18.LunisolarCompares", spec := "lunisolarCompares", unfollowed := true, recurses := true, apart := false }
def LunisolarComparesSaid : Prop := lunisolarComparesRow.holds Try.pinned (OpenSpec.ofChange lunisolarComparesSpec)

/-- ITS FALSE NEIGHBOUR: 'it returns false'. Refute it at one input. -/
def lunisolarComparesWrong : ChangeSpec := { name := "lunisolarCompares", fn := fun _ => fun
  | [d1, d2] => { results := [.lit (.bool false)], args := [d1, d2] }
  | _ => none }
def LunisolarComparesWrongFalsely : Prop := lunisolarComparesRow.holds Try.pinned (OpenSpec.ofChange lunisolarComparesWrong)

/- THE SECOND FORM. 'bulk': how many values and letters a reading holds, each counted each time it is reached (what is shared counts as often as it is met; a slice's spare places count too). A statement '..UptoSaid' is the law's where the arguments, and the package variables that the reading takes, are together of bulk at most 1048576: NARROWER than '..Said'. Prove '..Said' where nothing that the law and all that it calls make is longer than what came in: it says more and counts as full. Else prove '..UptoSaid'. A law counts once. -/
mutual
def uptoBulk {H : Type} : DataW H → Nat
  | .lit (.string bytes) => bytes.length + 1
  | .lit _ => 1
  | .nil => 1
  | .ptr d => uptoBulk d + 1
  | .slice elems spare => uptoBulkAll elems + uptoBulkAll spare + 1
  | .agg parts => uptoBulkAll parts + 1
  | .iface _ d => uptoBulk d + 1
  | .map entries => uptoBulkEntries entries + 1
  | .held _ => 1
def uptoBulkAll {H : Type} : List (DataW H) → Nat
  | [] => 0
  | d :: r => uptoBulk d + uptoBulkAll r
def uptoBulkEntries {H : Type} : List (Lit × DataW H) → Nat
  | [] => 0
  | x :: r => uptoBulkEntry x + uptoBulkEntries r
def uptoBulkEntry {H : Type} : Lit × DataW H → Nat
  | (.string bytes, d) => bytes.length + uptoBulk d + 1
  | (_, d) => uptoBulk d + 1
 end
def uptoSmall : (H : Type) → List (DataW H) → Bool := fun _ ds => decide (uptoBulkAll ds ≤ 1048576)
def OpenSpec.upto (s : _root_.Go.ChangeSpec) : _root_.Go.OpenSpec := { _root_.Go.OpenSpec.ofChange s with cond := some uptoSmall }

/-- 'pentaglotlaw18.LunisolarLeaps', WHERE WHAT IT READS IS OF BULK AT MOST 1048576: true; the input reads as it did. -/
def lunisolarLeapsUptoRow : OpenClaim := { program := "ytfpegmnjplagfaa", sum := "6e8ce15941449308d8d7534526aec8de86874726d7ce9790adb508eb0dd82c1d", func := "pentaglot/pentaglotlaw18.LunisolarLeaps", spec := "lunisolarLeaps", unfollowed := true, recurses := true, apart := false, narrowed := true }
def LunisolarLeapsUptoSaid : Prop := lunisolarLeapsUptoRow.holds Try.pinned (OpenSpec.upto lunisolarLeapsSpec)

/-- 'pentaglotlaw18.LunisolarYears', WHERE WHAT IT READS IS OF BULK AT MOST 1048576: true; the input reads as it did. -/
def lunisolarYearsUptoRow : OpenClaim := { program := "ytfpegmnjplagfaa", sum := "6e8ce15941449308d8d7534526aec8de86874726d7ce9790adb508eb0dd82c1d", func := "pentaglot/pentaglotlaw18.LunisolarYears", spec := "lunisolarYears", unfollowed := true, recurses := true, apart := false, narrowed := true }
def LunisolarYearsUptoSaid : Prop := lunisolarYearsUptoRow.holds Try.pinned (OpenSpec.upto lunisolarYearsSpec)

/-- 'pentaglotlaw18.LunisolarMonths', WHERE WHAT IT READS IS OF BULK AT MOST 1048576: true; the input reads as it did. -/
def lunisolarMonthsUptoRow : OpenClaim := { program := "ytfpegmnjplagfaa", sum := "6e8ce15941449308d8d7534526aec8de86874726d7ce9790adb508eb0dd82c1d", func := "pentaglot/pentaglotlaw18.LunisolarMonths", spec := "lunisolarMonths", unfollowed := true, recurses := true, apart := false, narrowed := true }
def LunisolarMonthsUptoSaid : Prop := lunisolarMonthsUptoRow.holds Try.pinned (OpenSpec.upto lunisolarMonthsSpec)

/-- 'pentaglotlaw18.LunisolarMonthDays', WHERE WHAT IT READS IS OF BULK AT MOST 1048576: true; the input reads as it did. -/
def lunisolarMonthDaysUptoRow : OpenClaim := { program := "ytfpegmnjplagfaa", sum := "6e8ce15941449308d8d7534526aec8de86874726d7ce9790adb508eb0dd82c1d", func := "pentaglot/pentaglotlaw18.LunisolarMonthDays", spec := "lunisolarMonthDays", unfollowed := true, recurses := true, apart := false, narrowed := true }
def LunisolarMonthDaysUptoSaid : Prop := lunisolarMonthDaysUptoRow.holds Try.pinned (OpenSpec.upto lunisolarMonthDaysSpec)

/-- 'pentaglotlaw18.LunisolarDates', WHERE WHAT IT READS IS OF BULK AT MOST 1048576: true; the input reads as it did. -/
def lunisolarDatesUptoRow : OpenClaim := { program := "ytfpegmnjplagfaa", sum := "6e8ce15941449308d8d7534526aec8de86874726d7ce9790adb508eb0dd82c1d", func := "pentaglot/pentaglotlaw18.LunisolarDates", spec := "lunisolarDates", unfollowed := true, recurses := true, apart := false, narrowed := true }
def LunisolarDatesUptoSaid : Prop := lunisolarDatesUptoRow.holds Try.pinned (OpenSpec.upto lunisolarDatesSpec)

/-- 'pentaglotlaw18.LunisolarDays', WHERE WHAT IT READS IS OF BULK AT MOST 1048576: true; the input reads as it did. -/
def lunisolarDaysUptoRow : OpenClaim := { program := "ytfpegmnjplagfaa", sum := "6e8ce15941449308d8d7534526aec8de86874726d7ce9790adb508eb0dd82c1d", func := "pentaglot/pentaglotlaw18.LunisolarDays", spec := "lunisolarDays", unfollowed := true, recurses := true, apart := false, narrowed := true }
def LunisolarDaysUptoSaid : Prop := lunisolarDaysUptoRow.holds Try.pinned (OpenSpec.upto lunisolarDaysSpec)

/-- 'pentaglotlaw18.LunisolarInverts', WHERE WHAT IT READS IS OF BULK AT MOST 1048576: true; the input reads as it did. -/
def lunisolarInvertsUptoRow : OpenClaim := { program := "ytfpegmnjplagfaa", sum := "6e8ce15941449308d8d7534526aec8de86874726d7ce9790adb508eb0dd82c1d", func := "pentaglot/pentaglotlaw18.LunisolarInverts", spec := "lunisolarInverts", unfollowed := true, recurses := true, apart := false, narrowed := true }
def LunisolarInvertsUptoSaid : Prop := lunisolarInvertsUptoRow.holds Try.pinned (OpenSpec.upto lunisolarInvertsSpec)

/-- 'pentaglotlaw18.LunisolarFollows', WHERE WHAT IT READS IS OF BULK AT MOST 1048576: true; the input reads as it did. -/
def lunisolarFollowsUptoRow : OpenClaim := { program := "ytfpegmnjplagfaa", sum := "6e8ce15941449308d8d7534526aec8de86874726d7ce9790adb508eb0dd82c1d", func := "pentaglot/pentaglotlaw18.LunisolarFollows", spec := "lunisolarFollows", unfollowed := true, recurses := true, apart := false, narrowed := true }
def LunisolarFollowsUptoSaid : Prop := lunisolarFollowsUptoRow.holds Try.pinned (OpenSpec.upto lunisolarFollowsSpec)

/-- 'pentaglotlaw18.LunisolarRepeats', WHERE WHAT IT READS IS OF BULK AT MOST 1048576: true; the input reads as it did. -/
def lunisolarRepeatsUptoRow : OpenClaim := { program := "ytfpegmnjplagfaa", sum := "6e8ce15941449308d8d7534526aec8de86874726d7ce9790adb508eb0dd82c1d", func := "pentaglot/pentaglotlaw18.LunisolarRepeats", spec := "lunisolarRepeats", unfollowed := true, recurses := true, apart := false, narrowed := true }
def LunisolarRepeatsUptoSaid : Prop := lunisolarRepeatsUptoRow.holds Try.pinned (OpenSpec.upto lunisolarRepeatsSpec)

/-- 'pentaglotlaw18.LunisolarCompares', WHERE WHAT IT READS IS OF BULK AT MOST 1048576: true; the input reads as it did. -/
def lunisolarComparesUptoRow : OpenClaim := { program := "ytfpegmnjplagfaa", sum := "6e8ce15941449308d8d7534526aec8de86874726d7ce9790adb508eb0dd82c1d", func := "pentaglot/pentaglotlaw18.LunisolarCompares", spec := "lunisolarCompares", unfollowed := true, recurses := true, apart := false, narrowed := true }
def LunisolarComparesUptoSaid : Prop := lunisolarComparesUptoRow.holds Try.pinned (OpenSpec.upto lunisolarComparesSpec)

end Rows
end Go.Proofs.Ytfpegmnjplagfaa
