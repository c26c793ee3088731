/-
  NARROWER THAN 'FOR EVERY INPUT', by the rows' own cells (each row's printed sentence says how): BidiClasses: laid · BidiLevels: laid · BidiOrder: laid · BidiVisual: laid · BidiLogical: laid · BidiRuns: laid · BidiPlain: laid · BidiParts: laid · BidiBase: laid.
  DERIVED. THE GIVEN ROWS OF THIS SEAT. 9 by the template 'for every input the law returns true; each argument reads behind the call as it read before'; 0 by the template 'total and deterministic' (their statements: YtfecolaljnijbaaDoorTotals.lean).
  GIVEN WITH THE SEED: the statements are not yours to turn. If you find one false, say at which input.
  Laid BY PROGRAM, IN A SANDBOX (cutbox-rows.mjs): the forced cells as the released guide's own fill.sh prints them over the translation 86280747629104ab… (all of the seat's roots in one cut). By AI agents, Wed Nov 11 2026. No macro, syntax, notation, axiom, sorry.
-/
import Derived.Test.YtfecolaljnijbaaDoorChecked
import GoSem.PinnedTables
import GoSem.Claim
import GoSem.ClaimJoined
import GoSem.ClaimMapViews
import Derived.JoinedTies
import Derived.KernelRfl
namespace Go.Proofs.YtfecolaljnijbaaDoor
/- THE CELL 'sum', in the pinned program and in every row, IS THE sha256 OF THE DUMP (.gsa) THAT YtfecolaljnijbaaDoorProg.lean LOADS. Nothing in Lean hashes anything: it is a label: what it is worth is what the hold of that sum in a sandbox is worth. -/
noncomputable def Tryd.pinned : Pinned := { name := "ytfecolaljnijbaadoor", sum := "86280747629104ab409c8b705ba5939c466e447f2d8f4cde8f4c101cbfecb3b6", checked := Tryd.checked }
namespace Rows
def none {H : Type} : Left H := { results := [], args := [] }

/- WHAT THE LISTED PACKAGE-LEVEL VARIABLES READ AS WHEN THE CALL BEGINS. Each datum BY PROGRAM (the guide's laid-datum.mjs) off the statement by which the dump's own 'gosem.cut.vars' lays the variable. In a bare row this is a premise. The card (YtfecolaljnijbaaDoorCards.lean) ties it to the program's text. -/
def laid_unicode_utf8_acceptRanges {H : Type} : DataW H := .agg [.agg [.lit (.int .u8 128), .lit (.int .u8 191)], .agg [.lit (.int .u8 160), .lit (.int .u8 191)], .agg [.lit (.int .u8 128), .lit (.int .u8 159)], .agg [.lit (.int .u8 144), .lit (.int .u8 191)], .agg [.lit (.int .u8 128), .lit (.int .u8 143)], .agg [.lit (.int .u8 0), .lit (.int .u8 0)], .agg [.lit (.int .u8 0), .lit (.int .u8 0)], .agg [.lit (.int .u8 0), .lit (.int .u8 0)], .agg [.lit (.int .u8 0), .lit (.int .u8 0)], .agg [.lit (.int .u8 0), .lit (.int .u8 0)], .agg [.lit (.int .u8 0), .lit (.int .u8 0)], .agg [.lit (.int .u8 0), .lit (.int .u8 0)], .agg [.lit (.int .u8 0), .lit (.int .u8 0)], .agg [.lit (.int .u8 0), .lit (.int .u8 0)], .agg [.lit (.int .u8 0), .lit (.int .u8 0)], .agg [.lit (.int .u8 0), .lit (.int .u8 0)]]
/-- One of Go's own tables, pinned by name: the form's constant. -/
def laid_unicode_utf8_first : DataW Unit := Go.Pinned.utf8First

/-- 'pentaglotlaw43.BidiClasses': WHATEVER THE INPUT: true; the input reads as it did. -/
def bidiClassesSpec : ChangeSpec := { name := "bidiClasses", fn := fun _ => fun
  | [d1, d2] => { results := [.lit (.bool true)], args := [d1, d2] }
  | _ => none }
def bidiClassesRow : OpenClaim := { program := "ytfecolaljnijbaadoor", sum := "86280747629104ab409c8b705ba5939c466e447f2d8f4cde8f4c101cbfecb3b6", func := "pentaglot/pentaglotlaw43.BidiClasses", spec := "bidiClasses", unfollowed := true, recurses := true, named := ["unicode/utf8.first", "unicode/utf8.acceptRanges"], apart := false, laid := [("unicode/utf8.acceptRanges", laid_unicode_utf8_acceptRanges), ("unicode/utf8.first", laid_unicode_utf8_first)] }
def BidiClassesSaid : Prop := bidiClassesRow.holds Tryd.pinned (OpenSpec.ofChange bidiClassesSpec)

/-- ITS FALSE NEIGHBOUR: 'it returns false'. Refute it at one input. -/
def bidiClassesWrong : ChangeSpec := { name := "bidiClasses", fn := fun _ => fun
  | [d1, d2] => { results := [.lit (.bool false)], args := [d1, d2] }
  | _ => none }
def BidiClassesWrongFalsely : Prop := bidiClassesRow.holds Tryd.pinned (OpenSpec.ofChange bidiClassesWrong)

/-- 'pentaglotlaw43.BidiLevels': WHATEVER THE INPUT: true; the input reads as it did. -/
def bidiLevelsSpec : ChangeSpec := { name := "bidiLevels", fn := fun _ => fun
  | [d1, d2] => { results := [.lit (.bool true)], args := [d1, d2] }
  | _ => none }
def bidiLevelsRow : OpenClaim := { program := "ytfecolaljnijbaadoor", sum := "86280747629104ab409c8b705ba5939c466e447f2d8f4cde8f4c101cbfecb3b6", func := "pentaglot/pentaglotlaw43.BidiLevels", spec := "bidiLevels", unfollowed := true, recurses := true, named := ["unicode/utf8.first", "unicode/utf8.acceptRanges"], apart := false, laid := [("unicode/utf8.acceptRanges", laid_unicode_utf8_acceptRanges), ("unicode/utf8.first", laid_unicode_utf8_first)] }
def BidiLevelsSaid : Prop := bidiLevelsRow.holds Tryd.pinned (OpenSpec.ofChange bidiLevelsSpec)

/-- ITS FALSE NEIGHBOUR: 'it returns false'. Refute it at one input. -/
def bidiLevelsWrong : ChangeSpec := { name := "bidiLevels", fn := fun _ => fun
  | [d1, d2] => { results := [.lit (.bool false)], args := [d1, d2] }
  | _ => none }
def BidiLevelsWrongFalsely : Prop := bidiLevelsRow.holds Tryd.pinned (OpenSpec.ofChange bidiLevelsWrong)

/-- 'pentaglotlaw43.BidiOrder': WHATEVER THE INPUT: true; the input reads as it did. -/
def bidiOrderSpec : ChangeSpec := { name := "bidiOrder", fn := fun _ => fun
  | [d1, d2] => { results := [.lit (.bool true)], args := [d1, d2] }
  | _ => none }
def bidiOrderRow : OpenClaim := { program := "ytfecolaljnijbaadoor", sum := "86280747629104ab409c8b705ba5939c466e447f2d8f4cde8f4c101cbfecb3b6", func := "pentaglot/pentaglotlaw43.BidiOrder", spec := "bidiOrder", unfollowed := true, recurses := true, named := ["unicode/utf8.first", "unicode/utf8.acceptRanges"], apart := false, laid := [("unicode/utf8.acceptRanges", laid_unicode_utf8_acceptRanges), ("unicode/utf8.first", laid_unicode_utf8_first)] }
def BidiOrderSaid : Prop := bidiOrderRow.holds Tryd.pinned (OpenSpec.ofChange bidiOrderSpec)

/-- ITS FALSE NEIGHBOUR: 'it returns false'. Refute it at one input. -/
def bidiOrderWrong : ChangeSpec := { name := "bidiOrder", fn := fun _ => fun
  | [d1, d2] => { results := [.lit (.bool false)], args := [d1, d2] }
  | _ => none }
def BidiOrderWrongFalsely : Prop := bidiOrderRow.holds Tryd.pinned (OpenSpec.ofChange bidiOrderWrong)

/-- 'pentaglotlaw43.BidiVisual': WHATEVER THE INPUT: true; the input reads as it did. -/
def bidiVisualSpec : ChangeSpec := { name := "bidiVisual", fn := fun _ => fun
  | [d1, d2] => { results := [.lit (.bool true)], args := [d1, d2] }
  | _ => none }
def bidiVisualRow : OpenClaim := { program := "ytfecolaljnijbaadoor", sum := "86280747629104ab409c8b705ba5939c466e447f2d8f4cde8f4c101cbfecb3b6", func := "pentaglot/pentaglotlaw43.BidiVisual", spec := "bidiVisual", unfollowed := true, recurses := true, named := ["unicode/utf8.first", "unicode/utf8.acceptRanges"], apart := false, laid := [("unicode/utf8.acceptRanges", laid_unicode_utf8_acceptRanges), ("unicode/utf8.first", laid_unicode_utf8_first)] }
def BidiVisualSaid : Prop := bidiVisualRow.holds Tryd.pinned (OpenSpec.ofChange bidiVisualSpec)

/-- ITS FALSE NEIGHBOUR: 'it returns false'. Refute it at one input. -/
def bidiVisualWrong : ChangeSpec := { name := "bidiVisual", fn := fun _ => fun
  | [d1, d2] => { results := [.lit (.bool false)], args := [d1, d2] }
  | _ => none }
def BidiVisualWrongFalsely : Prop := bidiVisualRow.holds Tryd.pinned (OpenSpec.ofChange bidiVisualWrong)

/-- 'pentaglotlaw43.BidiLogical': WHATEVER THE INPUT: true; the input reads as it did. -/
def bidiLogicalSpec : ChangeSpec := { name := "bidiLogical", fn := fun _ => fun
  | [d1, d2] => { results := [.lit (.bool true)], args := [d1, d2] }
  | _ => none }
def bidiLogicalRow : OpenClaim := { program := "ytfecolaljnijbaadoor", sum := "86280747629104ab409c8b705ba5939c466e447f2d8f4cde8f4c101cbfecb3b6", func := "pentaglot/pentaglotlaw43.BidiLogical", spec := "bidiLogical", unfollowed := true, recurses := true, named := ["unicode/utf8.first", "unicode/utf8.acceptRanges"], apart := false, laid := [("unicode/utf8.acceptRanges", laid_unicode_utf8_acceptRanges), ("unicode/utf8.first", laid_unicode_utf8_first)] }
def BidiLogicalSaid : Prop := bidiLogicalRow.holds Tryd.pinned (OpenSpec.ofChange bidiLogicalSpec)

/-- ITS FALSE NEIGHBOUR: 'it returns false'. Refute it at one input. -/
def bidiLogicalWrong : ChangeSpec := { name := "bidiLogical", fn := fun _ => fun
  | [d1, d2] => { results := [.lit (.bool false)], args := [d1, d2] }
  | _ => none }
def BidiLogicalWrongFalsely : Prop := bidiLogicalRow.holds Tryd.pinned (OpenSpec.ofChange bidiLogicalWrong)

/-- 'pentaglotlaw43.BidiRuns': WHATEVER THE INPUT: true; the input reads as it did. -/
def bidiRunsSpec : ChangeSpec := { name := "bidiRuns", fn := fun _ => fun
  | [d1, d2] => { results := [.lit (.bool true)], args := [d1, d2] }
  | _ => none }
def bidiRunsRow : OpenClaim := { program := "ytfecolaljnijbaadoor", sum := "86280747629104ab409c8b705ba5939c466e447f2d8f4cde8f4c101cbfecb3b6", func := "pentaglot/pentaglotlaw43.BidiRuns", spec := "bidiRuns", unfollowed := true, recurses := true, named := ["unicode/utf8.first", "unicode/utf8.acceptRanges"], apart := false, laid := [("unicode/utf8.acceptRanges", laid_unicode_utf8_acceptRanges), ("unicode/utf8.first", laid_unicode_utf8_first)] }
def BidiRunsSaid : Prop := bidiRunsRow.holds Tryd.pinned (OpenSpec.ofChange bidiRunsSpec)

/-- ITS FALSE NEIGHBOUR: 'it returns false'. Refute it at one input. -/
def bidiRunsWrong : ChangeSpec := { name := "bidiRuns", fn := fun _ => fun
  | [d1, d2] => { results := [.lit (.bool false)], args := [d1, d2] }
  | _ => none }
def BidiRunsWrongFalsely : Prop := bidiRunsRow.holds Tryd.pinned (OpenSpec.ofChange bidiRunsWrong)

/-- 'pentaglotlaw43.BidiPlain': WHATEVER THE INPUT: true; the input reads as it did. -/
def bidiPlainSpec : ChangeSpec := { name := "bidiPlain", fn := fun _ => fun
  | [d] => { results := [.lit (.bool true)], args := [d] }
  | _ => none }
def bidiPlainRow : OpenClaim := { program := "ytfecolaljnijbaadoor", sum := "86280747629104ab409c8b705ba5939c466e447f2d8f4cde8f4c101cbfecb3b6", func := "pentaglot/pentaglotlaw43.BidiPlain", spec := "bidiPlain", unfollowed := true, recurses := true, named := ["unicode/utf8.first", "unicode/utf8.acceptRanges"], apart := false, laid := [("unicode/utf8.acceptRanges", laid_unicode_utf8_acceptRanges), ("unicode/utf8.first", laid_unicode_utf8_first)] }
def BidiPlainSaid : Prop := bidiPlainRow.holds Tryd.pinned (OpenSpec.ofChange bidiPlainSpec)

/-- ITS FALSE NEIGHBOUR: 'it returns false'. Refute it at one input. -/
def bidiPlainWrong : ChangeSpec := { name := "bidiPlain", fn := fun _ => fun
  | [d] => { results := [.lit (.bool false)], args := [d] }
  | _ => none }
def BidiPlainWrongFalsely : Prop := bidiPlainRow.holds Tryd.pinned (OpenSpec.ofChange bidiPlainWrong)

/-- 'pentaglotlaw43.BidiParts': WHATEVER THE INPUT: true; the input reads as it did. -/
def bidiPartsSpec : ChangeSpec := { name := "bidiParts", fn := fun _ => fun
  | [d1, d2] => { results := [.lit (.bool true)], args := [d1, d2] }
  | _ => none }
def bidiPartsRow : OpenClaim := { program := "ytfecolaljnijbaadoor", sum := "86280747629104ab409c8b705ba5939c466e447f2d8f4cde8f4c101cbfecb3b6", func := "pentaglot/pentaglotlaw43.BidiParts", spec := "bidiParts", unfollowed := true, recurses := true, named := ["unicode/utf8.first", "unicode/utf8.acceptRanges"], apart := false, laid := [("unicode/utf8.acceptRanges", laid_unicode_utf8_acceptRanges), ("unicode/utf8.first", laid_unicode_utf8_first)] }
def BidiPartsSaid : Prop := bidiPartsRow.holds Tryd.pinned (OpenSpec.ofChange bidiPartsSpec)

/-- ITS FALSE NEIGHBOUR: 'it returns false'. Refute it at one input. -/
def bidiPartsWrong : ChangeSpec := { name := "bidiParts", fn := fun _ => fun
  | [d1, d2] => { results := [.lit (.bool false)], args := [d1, d2] }
  | _ => none }
def BidiPartsWrongFalsely : Prop := bidiPartsRow.holds Tryd.pinned (OpenSpec.ofChange bidiPartsWrong)

/-- 'pentaglotlaw43.BidiBase': WHATEVER THE INPUT: true; the input reads as it did. -/
def bidiBaseSpec : ChangeSpec := { name := "bidiBase", fn := fun _ => fun
  | [d1, d2, d3] => { results := [.lit (.bool true)], args := [d1, d2, d3] }
  | _ => none }
def bidiBaseRow : OpenClaim := { program := "ytfecolaljnijbaadoor", sum := "86280747629104ab409c8b705ba5939c466e447f2d8f4cde8f4c101cbfecb3b6", func := "pentaglot/pentaglotlaw43.BidiBase", spec := "bidiBase", unfollowed := true, recurses := true, named := ["unicode/utf8.first", "unicode/utf8.acceptRanges"], apart := false, laid := [("unicode/utf8.acceptRanges", laid_unicode_utf8_acceptRanges), ("unicode/utf8.first", laid_unicode_utf8_first)] }
def BidiBaseSaid : Prop := bidiBaseRow.holds Tryd.pinned (OpenSpec.ofChange bidiBaseSpec)

/-- ITS FALSE NEIGHBOUR: 'it returns false'. Refute it at one input. -/
def bidiBaseWrong : ChangeSpec := { name := "bidiBase", fn := fun _ => fun
  | [d1, d2, d3] => { results := [.lit (.bool false)], args := [d1, d2, d3] }
  | _ => none }
def BidiBaseWrongFalsely : Prop := bidiBaseRow.holds Tryd.pinned (OpenSpec.ofChange bidiBaseWrong)

/- THE SECOND FORM. 'bulk': how many values and letters a reading holds, each counted each time it is reached (what is shared counts as often as it is met; a slice's spare places count too). A statement '..UptoSaid' is the law's where the arguments, and the package variables that the reading takes, are together of bulk at most 1048576: NARROWER than '..Said'. Prove '..Said' where nothing that the law and all that it calls make is longer than what came in: it says more and counts as full. Else prove '..UptoSaid'. A law counts once. -/
mutual
def uptoBulk {H : Type} : DataW H → Nat
  | .lit (.string bytes) => bytes.length + 1
  | .lit _ => 1
  | .nil => 1
  | .ptr d => uptoBulk d + 1
  | .slice elems spare => uptoBulkAll elems + uptoBulkAll spare + 1
  | .agg parts => uptoBulkAll parts + 1
  | .iface _ d => uptoBulk d + 1
  | .map entries => uptoBulkEntries entries + 1
  | .held _ => 1
def uptoBulkAll {H : Type} : List (DataW H) → Nat
  | [] => 0
  | d :: r => uptoBulk d + uptoBulkAll r
def uptoBulkEntries {H : Type} : List (Lit × DataW H) → Nat
  | [] => 0
  | x :: r => uptoBulkEntry x + uptoBulkEntries r
def uptoBulkEntry {H : Type} : Lit × DataW H → Nat
  | (.string bytes, d) => bytes.length + uptoBulk d + 1
  | (_, d) => uptoBulk d + 1
 end
def uptoSmall : (H : Type) → List (DataW H) → Bool := fun _ ds => decide (uptoBulkAll ds ≤ 1048576)
def OpenSpec.upto (s : _root_.Go.ChangeSpec) : _root_.Go.OpenSpec := { _root_.Go.OpenSpec.ofChange s with cond := some uptoSmall }

/-- 'pentaglotlaw43.BidiClasses', WHERE WHAT IT READS IS OF BULK AT MOST 1048576: true; the input reads as it did. -/
def bidiClassesUptoRow : OpenClaim := { program := "ytfecolaljnijbaadoor", sum := "86280747629104ab409c8b705ba5939c466e447f2d8f4cde8f4c101cbfecb3b6", func := "pentaglot/pentaglotlaw43.BidiClasses", spec := "bidiClasses", unfollowed := true, recurses := true, named := ["unicode/utf8.first", "unicode/utf8.acceptRanges"], apart := false, laid := [("unicode/utf8.acceptRanges", laid_unicode_utf8_acceptRanges), ("unicode/utf8.first", laid_unicode_utf8_first)], narrowed := true }
def BidiClassesUptoSaid : Prop := bidiClassesUptoRow.holds Tryd.pinned (OpenSpec.upto bidiClassesSpec)

/-- 'pentaglotlaw43.BidiLevels', WHERE WHAT IT READS IS OF BULK AT MOST 1048576: true; the input reads as it did. -/
def bidiLevelsUptoRow : OpenClaim := { program := "ytfecolaljnijbaadoor", sum := "86280747629104ab409c8b705ba5939c466e447f2d8f4cde8f4c101cbfecb3b6", func := "pentaglot/pentaglotlaw43.BidiLevels", spec := "bidiLevels", unfollowed := true, recurses := true, named := ["unicode/utf8.first", "unicode/utf8.acceptRanges"], apart := false, laid := [("unicode/utf8.acceptRanges", laid_unicode_utf8_acceptRanges), ("unicode/utf8.first", laid_unicode_utf8_first)], narrowed := true }
def BidiLevelsUptoSaid : Prop := bidiLevelsUptoRow.holds Tryd.pinned (OpenSpec.upto bidiLevelsSpec)

/-- 'pentaglotlaw43.BidiOrder', WHERE WHAT IT READS IS OF BULK AT MOST 1048576: true; the input reads as it did. -/
def bidiOrderUptoRow : OpenClaim := { program := "ytfecolaljnijbaadoor", sum := "86280747629104ab409c8b705ba5939c466e447f2d8f4cde8f4c101cbfecb3b6", func := "pentaglot/pentaglotlaw43.BidiOrder", spec := "bidiOrder", unfollowed := true, recurses := true, named := ["unicode/utf8.first", "unicode/utf8.acceptRanges"], apart := false, laid := [("unicode/utf8.acceptRanges", laid_unicode_utf8_acceptRanges), ("unicode/utf8.first", laid_unicode_utf8_first)], narrowed := true }
def BidiOrderUptoSaid : Prop := bidiOrderUptoRow.holds Tryd.pinned (OpenSpec.upto bidiOrderSpec)

/-- 'pentaglotlaw43.BidiVisual', WHERE WHAT IT READS IS OF BULK AT MOST 1048576: true; the input reads as it did. -/
def bidiVisualUptoRow : OpenClaim := { program := "ytfecolaljnijbaadoor", sum := "86280747629104ab409c8b705ba5939c466e447f2d8f4cde8f4c101cbfecb3b6", func := "pentaglot/pentaglotlaw43.BidiVisual", spec := "bidiVisual", unfollowed := true, recurses := true, named := ["unicode/utf8.first", "unicode/utf8.acceptRanges"], apart := false, laid := [("unicode/utf8.acceptRanges", laid_unicode_utf8_acceptRanges), ("unicode/utf8.first", laid_unicode_utf8_first)], narrowed := true }
def BidiVisualUptoSaid : Prop := bidiVisualUptoRow.holds Tryd.pinned (OpenSpec.upto bidiVisualSpec)

/-- 'pentaglotlaw43.BidiLogical', WHERE WHAT IT READS IS OF BULK AT MOST 1048576: true; the input reads as it did. -/
def bidiLogicalUptoRow : OpenClaim := { program := "ytfecolaljnijbaadoor", sum := "86280747629104ab409c8b705ba5939c466e447f2d8f4cde8f4c101cbfecb3b6", func := "pentaglot/pentaglotlaw43.BidiLogical", spec := "bidiLogical", unfollowed := true, recurses := true, named := ["unicode/utf8.first", "unicode/utf8.acceptRanges"], apart := false, laid := [("unicode/utf8.acceptRanges", laid_unicode_utf8_acceptRanges), ("unicode/utf8.first", laid_unicode_utf8_first)], narrowed := true }
def BidiLogicalUptoSaid : Prop := bidiLogicalUptoRow.holds Tryd.pinned (OpenSpec.upto bidiLogicalSpec)

/-- 'pentaglotlaw43.BidiRuns', WHERE WHAT IT READS IS OF BULK AT MOST 1048576: true; the input reads as it did. -/
def bidiRunsUptoRow : OpenClaim := { program := "ytfecolaljnijbaadoor", sum := "86280747629104ab409c8b705ba5939c466e447f2d8f4cde8f4c101cbfecb3b6", func := "pentaglot/pentaglotlaw43.BidiRuns", spec := "bidiRuns", unfollowed := true, recurses := true, named := ["unicode/utf8.first", "unicode/utf8.acceptRanges"], apart := false, laid := [("unicode/utf8.acceptRanges", laid_unicode_utf8_acceptRanges), ("unicode/utf8.first", laid_unicode_utf8_first)], narrowed := true }
def BidiRunsUptoSaid : Prop := bidiRunsUptoRow.holds Tryd.pinned (OpenSpec.upto bidiRunsSpec)

/-- 'pentaglotlaw43.BidiPlain', WHERE WHAT IT READS IS OF BULK AT MOST 1048576: true; the input reads as it did. -/
def bidiPlainUptoRow : OpenClaim := { program := "ytfecolaljnijbaadoor", sum := "86280747629104ab409c8b705ba5939c466e447f2d8f4cde8f4c101cbfecb3b6", func := "pentaglot/pentaglotlaw43.BidiPlain", spec := "bidiPlain", unfollowed := true, recurses := true, named := ["unicode/utf8.first", "unicode/utf8.acceptRanges"], apart := false, laid := [("unicode/utf8.acceptRanges", laid_unicode_utf8_acceptRanges), ("unicode/utf8.first", laid_unicode_utf8_first)], narrowed := true }
def BidiPlainUptoSaid : Prop := bidiPlainUptoRow.holds Tryd.pinned (OpenSpec.upto bidiPlainSpec)

/-- 'pentaglotlaw43.BidiParts', WHERE WHAT IT READS IS OF BULK AT MOST 1048576: true; the input reads as it did. -/
def bidiPartsUptoRow : OpenClaim := { program := "ytfecolaljnijbaadoor", sum := "86280747629104ab409c8b705ba5939c466e447f2d8f4cde8f4c101cbfecb3b6", func := "pentaglot/pentaglotlaw43.BidiParts", spec := "bidiParts", unfollowed := true, recurses := true, named := ["unicode/utf8.first", "unicode/utf8.acceptRanges"], apart := false, laid := [("unicode/utf8.acceptRanges", laid_unicode_utf8_acceptRanges), ("unicode/utf8.first", laid_unicode_utf8_first)], narrowed := true }
def BidiPartsUptoSaid : Prop := bidiPartsUptoRow.holds Tryd.pinned (OpenSpec.upto bidiPartsSpec)

/-- 'pentaglotlaw43.BidiBase', WHERE WHAT IT READS IS OF BULK AT MOST 1048576: true; the input reads as it did. -/
def bidiBaseUptoRow : OpenClaim := { program := "ytfecolaljnijbaadoor", sum := "86280747629104ab409c8b705ba5939c466e447f2d8f4cde8f4c101cbfecb3b6", func := "pentaglot/pentaglotlaw43.BidiBase", spec := "bidiBase", unfollowed := true, recurses := true, named := ["unicode/utf8.first", "unicode/utf8.acceptRanges"], apart := false, laid := [("unicode/utf8.acceptRanges", laid_unicode_utf8_acceptRanges), ("unicode/utf8.first", laid_unicode_utf8_first)], narrowed := true }
def BidiBaseUptoSaid : Prop := bidiBaseUptoRow.holds Tryd.pinned (OpenSpec.upto bidiBaseSpec)

end Rows
end Go.Proofs.YtfecolaljnijbaaDoor
