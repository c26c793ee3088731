/-
  No cell of these rows narrows 'for every input' (looked for: loops, veiled, ifaces, maps, wideKeys, modest, calm, conditions, laid).
  DERIVED. THE GIVEN ROWS OF THIS SEAT. 9 by the template 'for every input the law returns true; each argument reads behind the call as it read before'; 0 by the template 'total and deterministic' (their statements: YtpfmcifiocpfbaaTotals.lean).
  GIVEN WITH THE SEED: the statements are not yours to turn. If you find one false, say at which input.
  Laid BY PROGRAM, IN A SANDBOX (cutbox-rows.mjs): the forced cells as the released guide's own fill.sh prints them over the translation 349b1480f6754486… (all of the seat's roots in one cut). By AI agents, Wed Nov 11 2026. No macro, syntax, notation, axiom, sorry.
-/
import Derived.Test.YtpfmcifiocpfbaaChecked
import GoSem.Claim
import GoSem.ClaimJoined
import GoSem.ClaimMapViews
import Derived.JoinedTies
import Derived.KernelRfl
namespace Go.Proofs.Ytpfmcifiocpfbaa
/- THE CELL 'sum', in the pinned program and in every row, IS THE sha256 OF THE DUMP (.gsa) THAT YtpfmcifiocpfbaaProg.lean LOADS. Nothing in Lean hashes anything: it is a label: what it is worth is what the hold of that sum in a sandbox is worth. -/
noncomputable def Try.pinned : Pinned := { name := "ytpfmcifiocpfbaa", sum := "349b1480f67544867e009bbde7f5155fdce0ec4a6088f8a02a2b17fda2f563c1", checked := Try.checked }
namespace Rows
def none {H : Type} : Left H := { results := [], args := [] }

/-- 'pentaglotlaw16.MeasureSplit': WHATEVER THE INPUT: true; the input reads as it did. -/
def measureSplitSpec : ChangeSpec := { name := "measureSplit", fn := fun _ => fun
  | [d1, d2] => { results := [.lit (.bool true)], args := [d1, d2] }
  | _ => none }
def measureSplitRow : OpenClaim := { program := "ytpfmcifiocpfbaa", sum := "349b1480f67544867e009bbde7f5155fdce0ec4a6088f8a02a2b17fda2f563c1", func := "pentaglot/pentaglotlaw16.MeasureSplit", spec := "measureSplit", unfollowed := true, recurses := true, apart := false }
def MeasureSplitSaid : Prop := measureSplitRow.holds Try.pinned (OpenSpec.ofChange measureSplitSpec)

/-- ITS FALSE NEIGHBOUR: 'it returns false'. Refute it at one input. -/
def measureSplitWrong : ChangeSpec := { name := "measureSplit", fn := fun _ => fun
  | [d1, d2] => { results := [.lit (.bool false)], args := [d1, d2] }
  | _ => none }
def MeasureSplitWrongFalsely : Prop := measureSplitRow.holds Try.pinned (OpenSpec.ofChange measureSplitWrong)

/-- 'pentaglotlaw16.MeasureSums': WHATEVER THE INPUT: true; the input reads as it did. -/
def measureSumsSpec : ChangeSpec := { name := "measureSums", fn := fun _ => fun
  | [d1, d2, d3] => { results := [.lit (.bool true)], args := [d1, d2, d3] }
  | _ => none }
def measureSumsRow : OpenClaim := { program := "ytpfmcifiocpfbaa", sum := "349b1480f67544867e009bbde7f5155fdce0ec4a6088f8a02a2b17fda2f563c1", func := "pentaglot/pentaglotlaw16.MeasureSums", spec := "measureSums", unfollowed := true, recurses := true, apart := false }
def MeasureSumsSaid : Prop := measureSumsRow.holds Try.pinned (OpenSpec.ofChange measureSumsSpec)

/-- ITS FALSE NEIGHBOUR: 'it returns false'. Refute it at one input. -/
def measureSumsWrong : ChangeSpec := { name := "measureSums", fn := fun _ => fun
  | [d1, d2, d3] => { results := [.lit (.bool false)], args := [d1, d2, d3] }
  | _ => none }
def MeasureSumsWrongFalsely : Prop := measureSumsRow.holds Try.pinned (OpenSpec.ofChange measureSumsWrong)

/-- 'pentaglotlaw16.MeasureBack': WHATEVER THE INPUT: true; the input reads as it did. -/
def measureBackSpec : ChangeSpec := { name := "measureBack", fn := fun _ => fun
  | [d1, d2, d3] => { results := [.lit (.bool true)], args := [d1, d2, d3] }
  | _ => none }
def measureBackRow : OpenClaim := { program := "ytpfmcifiocpfbaa", sum := "349b1480f67544867e009bbde7f5155fdce0ec4a6088f8a02a2b17fda2f563c1", func := "pentaglot/pentaglotlaw16.MeasureBack", spec := "measureBack", unfollowed := true, recurses := true, apart := false }
def MeasureBackSaid : Prop := measureBackRow.holds Try.pinned (OpenSpec.ofChange measureBackSpec)

/-- ITS FALSE NEIGHBOUR: 'it returns false'. Refute it at one input. -/
def measureBackWrong : ChangeSpec := { name := "measureBack", fn := fun _ => fun
  | [d1, d2, d3] => { results := [.lit (.bool false)], args := [d1, d2, d3] }
  | _ => none }
def MeasureBackWrongFalsely : Prop := measureBackRow.holds Try.pinned (OpenSpec.ofChange measureBackWrong)

/-- 'pentaglotlaw16.MeasureLarge': WHATEVER THE INPUT: true; the input reads as it did. -/
def measureLargeSpec : ChangeSpec := { name := "measureLarge", fn := fun _ => fun
  | [d1, d2] => { results := [.lit (.bool true)], args := [d1, d2] }
  | _ => none }
def measureLargeRow : OpenClaim := { program := "ytpfmcifiocpfbaa", sum := "349b1480f67544867e009bbde7f5155fdce0ec4a6088f8a02a2b17fda2f563c1", func := "pentaglot/pentaglotlaw16.MeasureLarge", spec := "measureLarge", unfollowed := true, recurses := true, apart := false }
def MeasureLargeSaid : Prop := measureLargeRow.holds Try.pinned (OpenSpec.ofChange measureLargeSpec)

/-- ITS FALSE NEIGHBOUR: 'it returns false'. Refute it at one input. -/
def measureLargeWrong : ChangeSpec := { name := "measureLarge", fn := fun _ => fun
  | [d1, d2] => { results := [.lit (.bool false)], args := [d1, d2] }
  | _ => none }
def MeasureLargeWrongFalsely : Prop := measureLargeRow.holds Try.pinned (OpenSpec.ofChange measureLargeWrong)

/-- 'pentaglotlaw16.MeasureOrder': WHATEVER THE INPUT: true; the input reads as it did. -/
def measureOrderSpec : ChangeSpec := { name := "measureOrder", fn := fun _ => fun
  | [d1, d2, d3] => { results := [.lit (.bool true)], args := [d1, d2, d3] }
  | _ => none }
def measureOrderRow : OpenClaim := { program := "ytpfmcifiocpfbaa", sum := "349b1480f67544867e009bbde7f5155fdce0ec4a6088f8a02a2b17fda2f563c1", func := "pentaglot/pentaglotlaw16.MeasureOrder", spec := "measureOrder", unfollowed := true, recurses := true, apart := false }
def MeasureOrderSaid : Prop := measureOrderRow.holds Try.pinned (OpenSpec.ofChange measureOrderSpec)

/-- ITS FALSE NEIGHBOUR: 'it returns false'. Refute it at one input. -/
def measureOrderWrong : ChangeSpec := { name := "measureOrder", fn := fun _ => fun
  | [d1, d2, d3] => { results := [.lit (.bool false)], args := [d1, d2, d3] }
  | _ => none }
def MeasureOrderWrongFalsely : Prop := measureOrderRow.holds Try.pinned (OpenSpec.ofChange measureOrderWrong)

/-- 'pentaglotlaw16.MeasureAdds': WHATEVER THE INPUT: true; the input reads as it did. -/
def measureAddsSpec : ChangeSpec := { name := "measureAdds", fn := fun _ => fun
  | [d1, d2, d3] => { results := [.lit (.bool true)], args := [d1, d2, d3] }
  | _ => none }
def measureAddsRow : OpenClaim := { program := "ytpfmcifiocpfbaa", sum := "349b1480f67544867e009bbde7f5155fdce0ec4a6088f8a02a2b17fda2f563c1", func := "pentaglot/pentaglotlaw16.MeasureAdds", spec := "measureAdds", unfollowed := true, recurses := true, apart := false }
def MeasureAddsSaid : Prop := measureAddsRow.holds Try.pinned (OpenSpec.ofChange measureAddsSpec)

/-- ITS FALSE NEIGHBOUR: 'it returns false'. Refute it at one input. -/
def measureAddsWrong : ChangeSpec := { name := "measureAdds", fn := fun _ => fun
  | [d1, d2, d3] => { results := [.lit (.bool false)], args := [d1, d2, d3] }
  | _ => none }
def MeasureAddsWrongFalsely : Prop := measureAddsRow.holds Try.pinned (OpenSpec.ofChange measureAddsWrong)

/-- 'pentaglotlaw16.MeasureConvert': WHATEVER THE INPUT: true; the input reads as it did. -/
def measureConvertSpec : ChangeSpec := { name := "measureConvert", fn := fun _ => fun
  | [d1, d2, d3] => { results := [.lit (.bool true)], args := [d1, d2, d3] }
  | _ => none }
def measureConvertRow : OpenClaim := { program := "ytpfmcifiocpfbaa", sum := "349b1480f67544867e009bbde7f5155fdce0ec4a6088f8a02a2b17fda2f563c1", func := "pentaglot/pentaglotlaw16.MeasureConvert", spec := "measureConvert", unfollowed := true, recurses := true, apart := false }
def MeasureConvertSaid : Prop := measureConvertRow.holds Try.pinned (OpenSpec.ofChange measureConvertSpec)

/-- ITS FALSE NEIGHBOUR: 'it returns false'. Refute it at one input. -/
def measureConvertWrong : ChangeSpec := { name := "measureConvert", fn := fun _ => fun
  | [d1, d2, d3] => { results := [.lit (.bool false)], args := [d1, d2, d3] }
  | _ => none }
def MeasureConvertWrongFalsely : Prop := measureConvertRow.holds Try.pinned (OpenSpec.ofChange measureConvertWrong)

/-- 'pentaglotlaw16.MeasureJoin': WHATEVER THE INPUT: true; the input reads as it did. -/
def measureJoinSpec : ChangeSpec := { name := "measureJoin", fn := fun _ => fun
  | [d1, d2] => { results := [.lit (.bool true)], args := [d1, d2] }
  | _ => none }
def measureJoinRow : OpenClaim := { program := "ytpfmcifiocpfbaa", sum := "349b1480f67544867e009bbde7f5155fdce0ec4a6088f8a02a2b17fda2f563c1", func := "pentaglot/pentaglotlaw16.MeasureJoin", spec := "measureJoin", unfollowed := true, recurses := true, apart := false }
def MeasureJoinSaid : Prop := measureJoinRow.holds Try.pinned (OpenSpec.ofChange measureJoinSpec)

/-- ITS FALSE NEIGHBOUR: 'it returns false'. Refute it at one input. -/
def measureJoinWrong : ChangeSpec := { name := "measureJoin", fn := fun _ => fun
  | [d1, d2] => { results := [.lit (.bool false)], args := [d1, d2] }
  | _ => none }
def MeasureJoinWrongFalsely : Prop := measureJoinRow.holds Try.pinned (OpenSpec.ofChange measureJoinWrong)

/-- 'pentaglotlaw16.MeasureRound': WHATEVER THE INPUT: true; the input reads as it did. -/
def measureRoundSpec : ChangeSpec := { name := "measureRound", fn := fun _ => fun
  | [d1, d2, d3] => { results := [.lit (.bool true)], args := [d1, d2, d3] }
  | _ => none }
def measureRoundRow : OpenClaim := { program := "ytpfmcifiocpfbaa", sum := "349b1480f67544867e009bbde7f5155fdce0ec4a6088f8a02a2b17fda2f563c1", func := "pentaglot/pentaglotlaw16.MeasureRound", spec := "measureRound", unfollowed := true, recurses := true, apart := false }
def MeasureRoundSaid : Prop := measureRoundRow.holds Try.pinned (OpenSpec.ofChange measureRoundSpec)

/-- ITS FALSE NEIGHBOUR: 'it returns false'. Refute it at one input. -/
def measureRoundWrong : ChangeSpec := { name := "measureRound", fn := fun _ => fun
  | [d1, d2, d3] => { results := [.lit (.bool false)], args := [d1, d2, d3] }
  | _ => none }
def MeasureRoundWrongFalsely : Prop := measureRoundRow.holds Try.pinned (OpenSpec.ofChange measureRoundWrong)

/- THE SECOND FORM. 'bulk': how many values and letters a reading holds, each counted each time it is reached (what is shared counts as often as it is met; a slice's spare places count too). A statement '..UptoSaid' is the law's where the arguments, and the package variables that the reading takes, are together of bulk at most 1048576: NARROWER than '..Said'. Prove '..Said' where nothing that the law and all that it calls make is longer than what came in: it says more and counts as full. Else prove '..UptoSaid'. A law counts once. -/
mutual
def uptoBulk {H : Type} : DataW H → Nat
  | .lit (.string bytes) => bytes.length + 1
  | .lit _ => 1
  | .nil => 1
  | .ptr d => uptoBulk d + 1
  | .slice elems spare => uptoBulkAll elems + uptoBulkAll spare + 1
  | .agg parts => uptoBulkAll parts + 1
  | .iface _ d => uptoBulk d + 1
  | .map entries => uptoBulkEntries entries + 1
  | .held _ => 1
def uptoBulkAll {H : Type} : List (DataW H) → Nat
  | [] => 0
  | d :: r => uptoBulk d + uptoBulkAll r
def uptoBulkEntries {H : Type} : List (Lit × DataW H) → Nat
  | [] => 0
  | x :: r => uptoBulkEntry x + uptoBulkEntries r
def uptoBulkEntry {H : Type} : Lit × DataW H → Nat
  | (.string bytes, d) => bytes.length + uptoBulk d + 1
  | (_, d) => uptoBulk d + 1
 end
def uptoSmall : (H : Type) → List (DataW H) → Bool := fun _ ds => decide (uptoBulkAll ds ≤ 1048576)
def OpenSpec.upto (s : _root_.Go.ChangeSpec) : _root_.Go.OpenSpec := { _root_.Go.OpenSpec.ofChange s with cond := some uptoSmall }

/-- 'pentaglotlaw16.MeasureSplit', WHERE WHAT IT READS IS OF BULK AT MOST 1048576: true; the input reads as it did. -/
def measureSplitUptoRow : OpenClaim := { program := "ytpfmcifiocpfbaa", sum := "349b1480f67544867e009bbde7f5155fdce0ec4a6088f8a02a2b17fda2f563c1", func := "pentaglot/pentaglotlaw16.MeasureSplit", spec := "measureSplit", unfollowed := true, recurses := true, apart := false, narrowed := true }
def MeasureSplitUptoSaid : Prop := measureSplitUptoRow.holds Try.pinned (OpenSpec.upto measureSplitSpec)

/-- 'pentaglotlaw16.MeasureSums', WHERE WHAT IT READS IS OF BULK AT MOST 1048576: true; the input reads as it did. -/
def measureSumsUptoRow : OpenClaim := { program := "ytpfmcifiocpfbaa", sum := "349b1480f67544867e009bbde7f5155fdce0ec4a6088f8a02a2b17fda2f563c1", func := "pentaglot/pentaglotlaw16.MeasureSums", spec := "measureSums", unfollowed := true, recurses := true, apart := false, narrowed := true }
def MeasureSumsUptoSaid : Prop := measureSumsUptoRow.holds Try.pinned (OpenSpec.upto measureSumsSpec)

/-- 'pentaglotlaw16.MeasureBack', WHERE WHAT IT READS IS OF BULK AT MOST 1048576: true; the input reads as it did. -/
def measureBackUptoRow : OpenClaim := { program := "ytpfmcifiocpfbaa", sum := "349b1480f67544867e009bbde7f5155fdce0ec4a6088f8a02a2b17fda2f563c1", func := "pentaglot/pentaglotlaw16.MeasureBack", spec := "measureBack", unfollowed := true, recurses := true, apart := false, narrowed := true }
def MeasureBackUptoSaid : Prop := measureBackUptoRow.holds Try.pinned (OpenSpec.upto measureBackSpec)

/-- 'pentaglotlaw16.MeasureLarge', WHERE WHAT IT READS IS OF BULK AT MOST 1048576: true; the input reads as it did. -/
def measureLargeUptoRow : OpenClaim := { program := "ytpfmcifiocpfbaa", sum := "349b1480f67544867e009bbde7f5155fdce0ec4a6088f8a02a2b17fda2f563c1", func := "pentaglot/pentaglotlaw16.MeasureLarge", spec := "measureLarge", unfollowed := true, recurses := true, apart := false, narrowed := true }
def MeasureLargeUptoSaid : Prop := measureLargeUptoRow.holds Try.pinned (OpenSpec.upto measureLargeSpec)

/-- 'pentaglotlaw16.MeasureOrder', WHERE WHAT IT READS IS OF BULK AT MOST 1048576: true; the input reads as it did. -/
def measureOrderUptoRow : OpenClaim := { program := "ytpfmcifiocpfbaa", sum := "349b1480f67544867e009bbde7f5155fdce0ec4a6088f8a02a2b17fda2f563c1", func := "pentaglot/pentaglotlaw16.MeasureOrder", spec := "measureOrder", unfollowed := true, recurses := true, apart := false, narrowed := true }
def MeasureOrderUptoSaid : Prop := measureOrderUptoRow.holds Try.pinned (OpenSpec.upto measureOrderSpec)

/-- 'pentaglotlaw16.MeasureAdds', WHERE WHAT IT READS IS OF BULK AT MOST 1048576: true; the input reads as it did. -/
def measureAddsUptoRow : OpenClaim := { program := "ytpfmcifiocpfbaa", sum := "349b1480f67544867e009bbde7f5155fdce0ec4a6088f8a02a2b17fda2f563c1", func := "pentaglot/pentaglotlaw16.MeasureAdds", spec := "measureAdds", unfollowed := true, recurses := true, apart := false, narrowed := true }
def MeasureAddsUptoSaid : Prop := measureAddsUptoRow.holds Try.pinned (OpenSpec.upto measureAddsSpec)

/-- 'pentaglotlaw16.MeasureConvert', WHERE WHAT IT READS IS OF BULK AT MOST 1048576: true; the input reads as it did. -/
def measureConvertUptoRow : OpenClaim := { program := "ytpfmcifiocpfbaa", sum := "349b1480f67544867e009bbde7f5155fdce0ec4a6088f8a02a2b17fda2f563c1", func := "pentaglot/pentaglotlaw16.MeasureConvert", spec := "measureConvert", unfollowed := true, recurses := true, apart := false, narrowed := true }
def MeasureConvertUptoSaid : Prop := measureConvertUptoRow.holds Try.pinned (OpenSpec.upto measureConvertSpec)

/-- 'pentaglotlaw16.MeasureJoin', WHERE WHAT IT READS IS OF BULK AT MOST 1048576: true; the input reads as it did. -/
def measureJoinUptoRow : OpenClaim := { program := "ytpfmcifiocpfbaa", sum := "349b1480f67544867e009bbde7f5155fdce0ec4a6088f8a02a2b17fda2f563c1", func := "pentaglot/pentaglotlaw16.MeasureJoin", spec := "measureJoin", unfollowed := true, recurses := true, apart := false, narrowed := true }
def MeasureJoinUptoSaid : Prop := measureJoinUptoRow.holds Try.pinned (OpenSpec.upto measureJoinSpec)

/-- 'pentaglotlaw16.MeasureRound', WHERE WHAT IT READS IS OF BULK AT MOST 1048576: true; the input reads as it did. -/
def measureRoundUptoRow : OpenClaim := { program := "ytpfmcifiocpfbaa", sum := "349b1480f67544867e009bbde7f5155fdce0ec4a6088f8a02a2b17fda2f563c1", func := "pentaglot/pentaglotlaw16.MeasureRound", spec := "measureRound", unfollowed := true, recurses := true, apart := false, narrowed := true }
def MeasureRoundUptoSaid : Prop := measureRoundUptoRow.holds Try.pinned (OpenSpec.upto measureRoundSpec)

end Rows
end Go.Proofs.Ytpfmcifiocpfbaa
