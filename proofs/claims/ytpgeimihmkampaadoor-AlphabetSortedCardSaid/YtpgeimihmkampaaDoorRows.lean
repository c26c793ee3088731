/-
  NARROWER THAN 'FOR EVERY INPUT', by the rows' own cells (each row's printed sentence says how): AlphabetValid: laid · AlphabetWord: laid · AlphabetJoins: laid · AlphabetCompare: laid · AlphabetOrder: laid · AlphabetWords: laid · AlphabetAscends: laid · AlphabetIndex: laid · AlphabetLetters: laid · AlphabetPartner: laid · AlphabetSelect: laid · AlphabetSort: laid · AlphabetSorted: laid.
  DERIVED. THE GIVEN ROWS OF THIS SEAT. 13 by the template 'for every input the law returns true; each argument reads behind the call as it read before'; 0 by the template 'total and deterministic' (their statements: YtpgeimihmkampaaDoorTotals.lean).
  GIVEN WITH THE SEED: the statements are not yours to turn. If you find one false, say at which input.
  Laid BY PROGRAM, IN A SANDBOX (cutbox-rows.mjs): the forced cells as the released guide's own fill.sh prints them over the translation 722d82648b578647… (all of the seat's roots in one cut). By AI agents, Wed Nov 11 2026. No macro, syntax, notation, axiom, sorry.
-/
import Derived.Test.YtpgeimihmkampaaDoorChecked
import GoSem.PinnedTables
import GoSem.Claim
import GoSem.ClaimJoined
import GoSem.ClaimMapViews
import Derived.JoinedTies
import Derived.KernelRfl
namespace Go.Proofs.YtpgeimihmkampaaDoor
/- THE CELL 'sum', in the pinned program and in every row, IS THE sha256 OF THE DUMP (.gsa) THAT YtpgeimihmkampaaDoorProg.lean LOADS. Nothing in Lean hashes anything: it is a label: what it is worth is what the hold of that sum in a sandbox is worth. -/
noncomputable def Tryd.pinned : Pinned := { name := "ytpgeimihmkampaadoor", sum := "722d82648b578647db02ac62a0807ce0b16f427656ee46aef091048f11358c7f", checked := Tryd.checked }
namespace Rows
def none {H : Type} : Left H := { results := [], args := [] }

/- WHAT THE LISTED PACKAGE-LEVEL VARIABLES READ AS WHEN THE CALL BEGINS. Each datum BY PROGRAM (the guide's laid-datum.mjs) off the statement by which the dump's own 'gosem.cut.vars' lays the variable. In a bare row this is a premise. The card (YtpgeimihmkampaaDoorCards.lean) ties it to the program's text. -/
def laid_unicode_utf8_acceptRanges {H : Type} : DataW H := .agg [.agg [.lit (.int .u8 128), .lit (.int .u8 191)], .agg [.lit (.int .u8 160), .lit (.int .u8 191)], .agg [.lit (.int .u8 128), .lit (.int .u8 159)], .agg [.lit (.int .u8 144), .lit (.int .u8 191)], .agg [.lit (.int .u8 128), .lit (.int .u8 143)], .agg [.lit (.int .u8 0), .lit (.int .u8 0)], .agg [.lit (.int .u8 0), .lit (.int .u8 0)], .agg [.lit (.int .u8 0), .lit (.int .u8 0)], .agg [.lit (.int .u8 0), .lit (.int .u8 0)], .agg [.lit (.int .u8 0), .lit (.int .u8 0)], .agg [.lit (.int .u8 0), .lit (.int .u8 0)], .agg [.lit (.int .u8 0), .lit (.int .u8 0)], .agg [.lit (.int .u8 0), .lit (.int .u8 0)], .agg [.lit (.int .u8 0), .lit (.int .u8 0)], .agg [.lit (.int .u8 0), .lit (.int .u8 0)], .agg [.lit (.int .u8 0), .lit (.int .u8 0)]]
/-- One of Go's own tables, pinned by name: the form's constant. -/
def laid_unicode_utf8_first : DataW Unit := Go.Pinned.utf8First

/-- 'pentaglotlaw01.AlphabetValid': WHATEVER THE INPUT: true; the input reads as it did. -/
def alphabetValidSpec : ChangeSpec := { name := "alphabetValid", fn := fun _ => fun
  | [d] => { results := [.lit (.bool true)], args := [d] }
  | _ => none }
def alphabetValidRow : OpenClaim := { program := "ytpgeimihmkampaadoor", sum := "722d82648b578647db02ac62a0807ce0b16f427656ee46aef091048f11358c7f", func := "pentaglot/pentaglotlaw01.AlphabetValid", spec := "alphabetValid", unfollowed := true, recurses := true, named := ["unicode/utf8.first", "unicode/utf8.acceptRanges"], apart := false, laid := [("unicode/utf8.acceptRanges", laid_unicode_utf8_acceptRanges), ("unicode/utf8.first", laid_unicode_utf8_first)] }
def AlphabetValidSaid : Prop := alphabetValidRow.holds Tryd.pinned (OpenSpec.ofChange alphabetValidSpec)

/-- ITS FALSE NEIGHBOUR: 'it returns false'. Refute it at one input. -/
def alphabetValidWrong : ChangeSpec := { name := "alphabetValid", fn := fun _ => fun
  | [d] => { results := [.lit (.bool false)], args := [d] }
  | _ => none }
def AlphabetValidWrongFalsely : Prop := alphabetValidRow.holds Tryd.pinned (OpenSpec.ofChange alphabetValidWrong)

/-- 'pentaglotlaw01.AlphabetWord': WHATEVER THE INPUT: true; the input reads as it did. -/
def alphabetWordSpec : ChangeSpec := { name := "alphabetWord", fn := fun _ => fun
  | [d1, d2] => { results := [.lit (.bool true)], args := [d1, d2] }
  | _ => none }
def alphabetWordRow : OpenClaim := { program := "ytpgeimihmkampaadoor", sum := "722d82648b578647db02ac62a0807ce0b16f427656ee46aef091048f11358c7f", func := "pentaglot/pentaglotlaw01.AlphabetWord", spec := "alphabetWord", unfollowed := true, recurses := true, named := ["unicode/utf8.first", "unicode/utf8.acceptRanges"], apart := false, laid := [("unicode/utf8.acceptRanges", laid_unicode_utf8_acceptRanges), ("unicode/utf8.first", laid_unicode_utf8_first)] }
def AlphabetWordSaid : Prop := alphabetWordRow.holds Tryd.pinned (OpenSpec.ofChange alphabetWordSpec)

/-- ITS FALSE NEIGHBOUR: 'it returns false'. Refute it at one input. -/
def alphabetWordWrong : ChangeSpec := { name := "alphabetWord", fn := fun _ => fun
  | [d1, d2] => { results := [.lit (.bool false)], args := [d1, d2] }
  | _ => none }
def AlphabetWordWrongFalsely : Prop := alphabetWordRow.holds Tryd.pinned (OpenSpec.ofChange alphabetWordWrong)

/-- 'pentaglotlaw01.AlphabetJoins': WHATEVER THE INPUT: true; the input reads as it did. -/
def alphabetJoinsSpec : ChangeSpec := { name := "alphabetJoins", fn := fun _ => fun
  | [d1, d2, d3] => { results := [.lit (.bool true)], args := [d1, d2, d3] }
  | _ => none }
def alphabetJoinsRow : OpenClaim := { program := "ytpgeimihmkampaadoor", sum := "722d82648b578647db02ac62a0807ce0b16f427656ee46aef091048f11358c7f", func := "pentaglot/pentaglotlaw01.AlphabetJoins", spec := "alphabetJoins", unfollowed := true, recurses := true, named := ["unicode/utf8.first", "unicode/utf8.acceptRanges"], apart := false, laid := [("unicode/utf8.acceptRanges", laid_unicode_utf8_acceptRanges), ("unicode/utf8.first", laid_unicode_utf8_first)] }
def AlphabetJoinsSaid : Prop := alphabetJoinsRow.holds Tryd.pinned (OpenSpec.ofChange alphabetJoinsSpec)

/-- ITS FALSE NEIGHBOUR: 'it returns false'. Refute it at one input. -/
def alphabetJoinsWrong : ChangeSpec := { name := "alphabetJoins", fn := fun _ => fun
  | [d1, d2, d3] => { results := [.lit (.bool false)], args := [d1, d2, d3] }
  | _ => none }
def AlphabetJoinsWrongFalsely : Prop := alphabetJoinsRow.holds Tryd.pinned (OpenSpec.ofChange alphabetJoinsWrong)

/-- 'pentaglotlaw01.AlphabetCompare': WHATEVER THE INPUT: true; the input reads as it did. -/
def alphabetCompareSpec : ChangeSpec := { name := "alphabetCompare", fn := fun _ => fun
  | [d1, d2, d3] => { results := [.lit (.bool true)], args := [d1, d2, d3] }
  | _ => none }
def alphabetCompareRow : OpenClaim := { program := "ytpgeimihmkampaadoor", sum := "722d82648b578647db02ac62a0807ce0b16f427656ee46aef091048f11358c7f", func := "pentaglot/pentaglotlaw01.AlphabetCompare", spec := "alphabetCompare", unfollowed := true, recurses := true, named := ["unicode/utf8.first", "unicode/utf8.acceptRanges"], apart := false, laid := [("unicode/utf8.acceptRanges", laid_unicode_utf8_acceptRanges), ("unicode/utf8.first", laid_unicode_utf8_first)] }
def AlphabetCompareSaid : Prop := alphabetCompareRow.holds Tryd.pinned (OpenSpec.ofChange alphabetCompareSpec)

/-- ITS FALSE NEIGHBOUR: 'it returns false'. Refute it at one input. -/
def alphabetCompareWrong : ChangeSpec := { name := "alphabetCompare", fn := fun _ => fun
  | [d1, d2, d3] => { results := [.lit (.bool false)], args := [d1, d2, d3] }
  | _ => none }
def AlphabetCompareWrongFalsely : Prop := alphabetCompareRow.holds Tryd.pinned (OpenSpec.ofChange alphabetCompareWrong)

/-- 'pentaglotlaw01.AlphabetOrder': WHATEVER THE INPUT: true; the input reads as it did. -/
def alphabetOrderSpec : ChangeSpec := { name := "alphabetOrder", fn := fun _ => fun
  | [d1, d2, d3, d4] => { results := [.lit (.bool true)], args := [d1, d2, d3, d4] }
  | _ => none }
def alphabetOrderRow : OpenClaim := { program := "ytpgeimihmkampaadoor", sum := "722d82648b578647db02ac62a0807ce0b16f427656ee46aef091048f11358c7f", func := "pentaglot/pentaglotlaw01.AlphabetOrder", spec := "alphabetOrder", unfollowed := true, recurses := true, named := ["unicode/utf8.first", "unicode/utf8.acceptRanges"], apart := false, laid := [("unicode/utf8.acceptRanges", laid_unicode_utf8_acceptRanges), ("unicode/utf8.first", laid_unicode_utf8_first)] }
def AlphabetOrderSaid : Prop := alphabetOrderRow.holds Tryd.pinned (OpenSpec.ofChange alphabetOrderSpec)

/-- ITS FALSE NEIGHBOUR: 'it returns false'. Refute it at one input. -/
def alphabetOrderWrong : ChangeSpec := { name := "alphabetOrder", fn := fun _ => fun
  | [d1, d2, d3, d4] => { results := [.lit (.bool false)], args := [d1, d2, d3, d4] }
  | _ => none }
def AlphabetOrderWrongFalsely : Prop := alphabetOrderRow.holds Tryd.pinned (OpenSpec.ofChange alphabetOrderWrong)

/-- 'pentaglotlaw01.AlphabetWords': WHATEVER THE INPUT: true; the input reads as it did. -/
def alphabetWordsSpec : ChangeSpec := { name := "alphabetWords", fn := fun _ => fun
  | [d1, d2] => { results := [.lit (.bool true)], args := [d1, d2] }
  | _ => none }
def alphabetWordsRow : OpenClaim := { program := "ytpgeimihmkampaadoor", sum := "722d82648b578647db02ac62a0807ce0b16f427656ee46aef091048f11358c7f", func := "pentaglot/pentaglotlaw01.AlphabetWords", spec := "alphabetWords", unfollowed := true, recurses := true, named := ["unicode/utf8.first", "unicode/utf8.acceptRanges"], apart := false, laid := [("unicode/utf8.acceptRanges", laid_unicode_utf8_acceptRanges), ("unicode/utf8.first", laid_unicode_utf8_first)] }
def AlphabetWordsSaid : Prop := alphabetWordsRow.holds Tryd.pinned (OpenSpec.ofChange alphabetWordsSpec)

/-- ITS FALSE NEIGHBOUR: 'it returns false'. Refute it at one input. -/
def alphabetWordsWrong : ChangeSpec := { name := "alphabetWords", fn := fun _ => fun
  | [d1, d2] => { results := [.lit (.bool false)], args := [d1, d2] }
  | _ => none }
def AlphabetWordsWrongFalsely : Prop := alphabetWordsRow.holds Tryd.pinned (OpenSpec.ofChange alphabetWordsWrong)

/-- 'pentaglotlaw01.AlphabetAscends': WHATEVER THE INPUT: true; the input reads as it did. -/
def alphabetAscendsSpec : ChangeSpec := { name := "alphabetAscends", fn := fun _ => fun
  | [d1, d2, d3] => { results := [.lit (.bool true)], args := [d1, d2, d3] }
  | _ => none }
def alphabetAscendsRow : OpenClaim := { program := "ytpgeimihmkampaadoor", sum := "722d82648b578647db02ac62a0807ce0b16f427656ee46aef091048f11358c7f", func := "pentaglot/pentaglotlaw01.AlphabetAscends", spec := "alphabetAscends", unfollowed := true, recurses := true, named := ["unicode/utf8.first", "unicode/utf8.acceptRanges"], apart := false, laid := [("unicode/utf8.acceptRanges", laid_unicode_utf8_acceptRanges), ("unicode/utf8.first", laid_unicode_utf8_first)] }
def AlphabetAscendsSaid : Prop := alphabetAscendsRow.holds Tryd.pinned (OpenSpec.ofChange alphabetAscendsSpec)

/-- ITS FALSE NEIGHBOUR: 'it returns false'. Refute it at one input. -/
def alphabetAscendsWrong : ChangeSpec := { name := "alphabetAscends", fn := fun _ => fun
  | [d1, d2, d3] => { results := [.lit (.bool false)], args := [d1, d2, d3] }
  | _ => none }
def AlphabetAscendsWrongFalsely : Prop := alphabetAscendsRow.holds Tryd.pinned (OpenSpec.ofChange alphabetAscendsWrong)

/-- 'pentaglotlaw01.AlphabetIndex': WHATEVER THE INPUT: true; the input reads as it did. -/
def alphabetIndexSpec : ChangeSpec := { name := "alphabetIndex", fn := fun _ => fun
  | [d1, d2] => { results := [.lit (.bool true)], args := [d1, d2] }
  | _ => none }
def alphabetIndexRow : OpenClaim := { program := "ytpgeimihmkampaadoor", sum := "722d82648b578647db02ac62a0807ce0b16f427656ee46aef091048f11358c7f", func := "pentaglot/pentaglotlaw01.AlphabetIndex", spec := "alphabetIndex", unfollowed := true, recurses := true, named := ["unicode/utf8.first", "unicode/utf8.acceptRanges"], apart := false, laid := [("unicode/utf8.acceptRanges", laid_unicode_utf8_acceptRanges), ("unicode/utf8.first", laid_unicode_utf8_first)] }
def AlphabetIndexSaid : Prop := alphabetIndexRow.holds Tryd.pinned (OpenSpec.ofChange alphabetIndexSpec)

/-- ITS FALSE NEIGHBOUR: 'it returns false'. Refute it at one input. -/
def alphabetIndexWrong : ChangeSpec := { name := "alphabetIndex", fn := fun _ => fun
  | [d1, d2] => { results := [.lit (.bool false)], args := [d1, d2] }
  | _ => none }
def AlphabetIndexWrongFalsely : Prop := alphabetIndexRow.holds Tryd.pinned (OpenSpec.ofChange alphabetIndexWrong)

/-- 'pentaglotlaw01.AlphabetLetters': WHATEVER THE INPUT: true; the input reads as it did. -/
def alphabetLettersSpec : ChangeSpec := { name := "alphabetLetters", fn := fun _ => fun
  | [d1, d2] => { results := [.lit (.bool true)], args := [d1, d2] }
  | _ => none }
def alphabetLettersRow : OpenClaim := { program := "ytpgeimihmkampaadoor", sum := "722d82648b578647db02ac62a0807ce0b16f427656ee46aef091048f11358c7f", func := "pentaglot/pentaglotlaw01.AlphabetLetters", spec := "alphabetLetters", unfollowed := true, recurses := true, named := ["unicode/utf8.first", "unicode/utf8.acceptRanges"], apart := false, laid := [("unicode/utf8.acceptRanges", laid_unicode_utf8_acceptRanges), ("unicode/utf8.first", laid_unicode_utf8_first)] }
def AlphabetLettersSaid : Prop := alphabetLettersRow.holds Tryd.pinned (OpenSpec.ofChange alphabetLettersSpec)

/-- ITS FALSE NEIGHBOUR: 'it returns false'. Refute it at one input. -/
def alphabetLettersWrong : ChangeSpec := { name := "alphabetLetters", fn := fun _ => fun
  | [d1, d2] => { results := [.lit (.bool false)], args := [d1, d2] }
  | _ => none }
def AlphabetLettersWrongFalsely : Prop := alphabetLettersRow.holds Tryd.pinned (OpenSpec.ofChange alphabetLettersWrong)

/-- 'pentaglotlaw01.AlphabetPartner': WHATEVER THE INPUT: true; the input reads as it did. -/
def alphabetPartnerSpec : ChangeSpec := { name := "alphabetPartner", fn := fun _ => fun
  | [d1, d2, d3] => { results := [.lit (.bool true)], args := [d1, d2, d3] }
  | _ => none }
def alphabetPartnerRow : OpenClaim := { program := "ytpgeimihmkampaadoor", sum := "722d82648b578647db02ac62a0807ce0b16f427656ee46aef091048f11358c7f", func := "pentaglot/pentaglotlaw01.AlphabetPartner", spec := "alphabetPartner", unfollowed := true, recurses := true, named := ["unicode/utf8.first", "unicode/utf8.acceptRanges"], apart := false, laid := [("unicode/utf8.acceptRanges", laid_unicode_utf8_acceptRanges), ("unicode/utf8.first", laid_unicode_utf8_first)] }
def AlphabetPartnerSaid : Prop := alphabetPartnerRow.holds Tryd.pinned (OpenSpec.ofChange alphabetPartnerSpec)

/-- ITS FALSE NEIGHBOUR: 'it returns false'. Refute it at one input. -/
def alphabetPartnerWrong : ChangeSpec := { name := "alphabetPartner", fn := fun _ => fun
  | [d1, d2, d3] => { results := [.lit (.bool false)], args := [d1, d2, d3] }
  | _ => none }
def AlphabetPartnerWrongFalsely : Prop := alphabetPartnerRow.holds Tryd.pinned (OpenSpec.ofChange alphabetPartnerWrong)

/-- 'pentaglotlaw01.AlphabetSelect': WHATEVER THE INPUT: true; the input reads as it did. -/
def alphabetSelectSpec : ChangeSpec := { name := "alphabetSelect", fn := fun _ => fun
  | [d1, d2] => { results := [.lit (.bool true)], args := [d1, d2] }
  | _ => none }
def alphabetSelectRow : OpenClaim := { program := "ytpgeimihmkampaadoor", sum := "722d82648b578647db02ac62a0807ce0b16f427656ee46aef091048f11358c7f", func := "pentaglot/pentaglotlaw01.AlphabetSelect", spec := "alphabetSelect", unfollowed := true, recurses := true, named := ["unicode/utf8.first", "unicode/utf8.acceptRanges"], apart := false, laid := [("unicode/utf8.acceptRanges", laid_unicode_utf8_acceptRanges), ("unicode/utf8.first", laid_unicode_utf8_first)] }
def AlphabetSelectSaid : Prop := alphabetSelectRow.holds Tryd.pinned (OpenSpec.ofChange alphabetSelectSpec)

/-- ITS FALSE NEIGHBOUR: 'it returns false'. Refute it at one input. -/
def alphabetSelectWrong : ChangeSpec := { name := "alphabetSelect", fn := fun _ => fun
  | [d1, d2] => { results := [.lit (.bool false)], args := [d1, d2] }
  | _ => none }
def AlphabetSelectWrongFalsely : Prop := alphabetSelectRow.holds Tryd.pinned (OpenSpec.ofChange alphabetSelectWrong)

/-- 'pentaglotlaw01.AlphabetSort': WHATEVER THE INPUT: true; the input reads as it did. -/
def alphabetSortSpec : ChangeSpec := { name := "alphabetSort", fn := fun _ => fun
  | [d1, d2] => { results := [.lit (.bool true)], args := [d1, d2] }
  | _ => none }
def alphabetSortRow : OpenClaim := { program := "ytpgeimihmkampaadoor", sum := "722d82648b578647db02ac62a0807ce0b16f427656ee46aef091048f11358c7f", func := "pentaglot/pentaglotlaw01.AlphabetSort", spec := "alphabetSort", unfollowed := true, recurses := true, named := ["unicode/utf8.first", "unicode/utf8.acceptRanges"], apart := false, laid := [("unicode/utf8.acceptRanges", laid_unicode_utf8_acceptRanges), ("unicode/utf8.first", laid_unicode_utf8_first)] }
def AlphabetSortSaid : Prop := alphabetSortRow.holds Tryd.pinned (OpenSpec.ofChange alphabetSortSpec)

/-- ITS FALSE NEIGHBOUR: 'it returns false'. Refute it at one input. -/
def alphabetSortWrong : ChangeSpec := { name := "alphabetSort", fn := fun _ => fun
  | [d1, d2] => { results := [.lit (.bool false)], args := [d1, d2] }
  | _ => none }
def AlphabetSortWrongFalsely : Prop := alphabetSortRow.holds Tryd.pinned (OpenSpec.ofChange alphabetSortWrong)

/-- 'pentaglotlaw01.AlphabetSorted': WHATEVER THE INPUT: true; the input reads as it did. -/
def alphabetSortedSpec : ChangeSpec := { name := "alphabetSorted", fn := fun _ => fun
  | [d1, d2, d3] => { results := [.lit (.bool true)], args := [d1, d2, d3] }
  | _ => none }
def alphabetSortedRow : OpenClaim := { program := "ytpgeimihmkampaadoor", sum := "722d82648b578647db02ac62a0807ce0b16f427656ee46aef091048f11358c7f", func := "pentaglot/pentaglotlaw01.AlphabetSorted", spec := "alphabetSorted", unfollowed := true, recurses := true, named := ["unicode/utf8.first", "unicode/utf8.acceptRanges"], apart := false, laid := [("unicode/utf8.acceptRanges", laid_unicode_utf8_acceptRanges), ("unicode/utf8.first", laid_unicode_utf8_first)] }
def AlphabetSortedSaid : Prop := alphabetSortedRow.holds Tryd.pinned (OpenSpec.ofChange alphabetSortedSpec)

/-- ITS FALSE NEIGHBOUR: 'it returns false'. Refute it at one input. -/
def alphabetSortedWrong : ChangeSpec := { name := "alphabetSorted", fn := fun _ => fun
  | [d1, d2, d3] => { results := [.lit (.bool false)], args := [d1, d2, d3] }
  | _ => none }
def AlphabetSortedWrongFalsely : Prop := alphabetSortedRow.holds Tryd.pinned (OpenSpec.ofChange alphabetSortedWrong)

/- THE SECOND FORM. 'bulk': how many values and letters a reading holds, each counted each time it is reached (what is shared counts as often as it is met; a slice's spare places count too). A statement '..UptoSaid' is the law's where the arguments, and the package variables that the reading takes, are together of bulk at most 1048576: NARROWER than '..Said'. Prove '..Said' where nothing that the law and all that it calls make is longer than what came in: it says more and counts as full. Else prove '..UptoSaid'. A law counts once. -/
mutual
def uptoBulk {H : Type} : DataW H → Nat
  | .lit (.string bytes) => bytes.length + 1
  | .lit _ => 1
  | .nil => 1
  | .ptr d => uptoBulk d + 1
  | .slice elems spare => uptoBulkAll elems + uptoBulkAll spare + 1
  | .agg parts => uptoBulkAll parts + 1
  | .iface _ d => uptoBulk d + 1
  | .map entries => uptoBulkEntries entries + 1
  | .held _ => 1
def uptoBulkAll {H : Type} : List (DataW H) → Nat
  | [] => 0
  | d :: r => uptoBulk d + uptoBulkAll r
def uptoBulkEntries {H : Type} : List (Lit × DataW H) → Nat
  | [] => 0
  | x :: r => uptoBulkEntry x + uptoBulkEntries r
def uptoBulkEntry {H : Type} : Lit × DataW H → Nat
  | (.string bytes, d) => bytes.length + uptoBulk d + 1
  | (_, d) => uptoBulk d + 1
 end
def uptoSmall : (H : Type) → List (DataW H) → Bool := fun _ ds => decide (uptoBulkAll ds ≤ 1048576)
def OpenSpec.upto (s : _root_.Go.ChangeSpec) : _root_.Go.OpenSpec := { _root_.Go.OpenSpec.ofChange s with cond := some uptoSmall }

/-- 'pentaglotlaw01.AlphabetValid', WHERE WHAT IT READS IS OF BULK AT MOST 1048576: true; the input reads as it did. -/
def alphabetValidUptoRow : OpenClaim := { program := "ytpgeimihmkampaadoor", sum := "722d82648b578647db02ac62a0807ce0b16f427656ee46aef091048f11358c7f", func := "pentaglot/pentaglotlaw01.AlphabetValid", spec := "alphabetValid", unfollowed := true, recurses := true, named := ["unicode/utf8.first", "unicode/utf8.acceptRanges"], apart := false, laid := [("unicode/utf8.acceptRanges", laid_unicode_utf8_acceptRanges), ("unicode/utf8.first", laid_unicode_utf8_first)], narrowed := true }
def AlphabetValidUptoSaid : Prop := alphabetValidUptoRow.holds Tryd.pinned (OpenSpec.upto alphabetValidSpec)

/-- 'pentaglotlaw01.AlphabetWord', WHERE WHAT IT READS IS OF BULK AT MOST 1048576: true; the input reads as it did. -/
def alphabetWordUptoRow : OpenClaim := { program := "ytpgeimihmkampaadoor", sum := "722d82648b578647db02ac62a0807ce0b16f427656ee46aef091048f11358c7f", func := "pentaglot/pentaglotlaw01.AlphabetWord", spec := "alphabetWord", unfollowed := true, recurses := true, named := ["unicode/utf8.first", "unicode/utf8.acceptRanges"], apart := false, laid := [("unicode/utf8.acceptRanges", laid_unicode_utf8_acceptRanges), ("unicode/utf8.first", laid_unicode_utf8_first)], narrowed := true }
def AlphabetWordUptoSaid : Prop := alphabetWordUptoRow.holds Tryd.pinned (OpenSpec.upto alphabetWordSpec)

/-- 'pentaglotlaw01.AlphabetJoins', WHERE WHAT IT READS IS OF BULK AT MOST 1048576: true; the input reads as it did. -/
def alphabetJoinsUptoRow : OpenClaim := { program := "ytpgeimihmkampaadoor", sum := "722d82648b578647db02ac62a0807ce0b16f427656ee46aef091048f11358c7f", func := "pentaglot/pentaglotlaw01.AlphabetJoins", spec := "alphabetJoins", unfollowed := true, recurses := true, named := ["unicode/utf8.first", "unicode/utf8.acceptRanges"], apart := false, laid := [("unicode/utf8.acceptRanges", laid_unicode_utf8_acceptRanges), ("unicode/utf8.first", laid_unicode_utf8_first)], narrowed := true }
def AlphabetJoinsUptoSaid : Prop := alphabetJoinsUptoRow.holds Tryd.pinned (OpenSpec.upto alphabetJoinsSpec)

/-- 'pentaglotlaw01.AlphabetCompare', WHERE WHAT IT READS IS OF BULK AT MOST 1048576: true; the input reads as it did. -/
def alphabetCompareUptoRow : OpenClaim := { program := "ytpgeimihmkampaadoor", sum := "722d82648b578647db02ac62a0807ce0b16f427656ee46aef091048f11358c7f", func := "pentaglot/pentaglotlaw01.AlphabetCompare", spec := "alphabetCompare", unfollowed := true, recurses := true, named := ["unicode/utf8.first", "unicode/utf8.acceptRanges"], apart := false, laid := [("unicode/utf8.acceptRanges", laid_unicode_utf8_acceptRanges), ("unicode/utf8.first", laid_unicode_utf8_first)], narrowed := true }
def AlphabetCompareUptoSaid : Prop := alphabetCompareUptoRow.holds Tryd.pinned (OpenSpec.upto alphabetCompareSpec)

/-- 'pentaglotlaw01.AlphabetOrder', WHERE WHAT IT READS IS OF BULK AT MOST 1048576: true; the input reads as it did. -/
def alphabetOrderUptoRow : OpenClaim := { program := "ytpgeimihmkampaadoor", sum := "722d82648b578647db02ac62a0807ce0b16f427656ee46aef091048f11358c7f", func := "pentaglot/pentaglotlaw01.AlphabetOrder", spec := "alphabetOrder", unfollowed := true, recurses := true, named := ["unicode/utf8.first", "unicode/utf8.acceptRanges"], apart := false, laid := [("unicode/utf8.acceptRanges", laid_unicode_utf8_acceptRanges), ("unicode/utf8.first", laid_unicode_utf8_first)], narrowed := true }
def AlphabetOrderUptoSaid : Prop := alphabetOrderUptoRow.holds Tryd.pinned (OpenSpec.upto alphabetOrderSpec)

/-- 'pentaglotlaw01.AlphabetWords', WHERE WHAT IT READS IS OF BULK AT MOST 1048576: true; the input reads as it did. -/
def alphabetWordsUptoRow : OpenClaim := { program := "ytpgeimihmkampaadoor", sum := "722d82648b578647db02ac62a0807ce0b16f427656ee46aef091048f11358c7f", func := "pentaglot/pentaglotlaw01.AlphabetWords", spec := "alphabetWords", unfollowed := true, recurses := true, named := ["unicode/utf8.first", "unicode/utf8.acceptRanges"], apart := false, laid := [("unicode/utf8.acceptRanges", laid_unicode_utf8_acceptRanges), ("unicode/utf8.first", laid_unicode_utf8_first)], narrowed := true }
def AlphabetWordsUptoSaid : Prop := alphabetWordsUptoRow.holds Tryd.pinned (OpenSpec.upto alphabetWordsSpec)

/-- 'pentaglotlaw01.AlphabetAscends', WHERE WHAT IT READS IS OF BULK AT MOST 1048576: true; the input reads as it did. -/
def alphabetAscendsUptoRow : OpenClaim := { program := "ytpgeimihmkampaadoor", sum := "722d82648b578647db02ac62a0807ce0b16f427656ee46aef091048f11358c7f", func := "pentaglot/pentaglotlaw01.AlphabetAscends", spec := "alphabetAscends", unfollowed := true, recurses := true, named := ["unicode/utf8.first", "unicode/utf8.acceptRanges"], apart := false, laid := [("unicode/utf8.acceptRanges", laid_unicode_utf8_acceptRanges), ("unicode/utf8.first", laid_unicode_utf8_first)], narrowed := true }
def AlphabetAscendsUptoSaid : Prop := alphabetAscendsUptoRow.holds Tryd.pinned (OpenSpec.upto alphabetAscendsSpec)

/-- 'pentaglotlaw01.AlphabetIndex', WHERE WHAT IT READS IS OF BULK AT MOST 1048576: true; the input reads as it did. -/
def alphabetIndexUptoRow : OpenClaim := { program := "ytpgeimihmkampaadoor", sum := "722d82648b578647db02ac62a0807ce0b16f427656ee46aef091048f11358c7f", func := "pentaglot/pentaglotlaw01.AlphabetIndex", spec := "alphabetIndex", unfollowed := true, recurses := true, named := ["unicode/utf8.first", "unicode/utf8.acceptRanges"], apart := false, laid := [("unicode/utf8.acceptRanges", laid_unicode_utf8_acceptRanges), ("unicode/utf8.first", laid_unicode_utf8_first)], narrowed := true }
def AlphabetIndexUptoSaid : Prop := alphabetIndexUptoRow.holds Tryd.pinned (OpenSpec.upto alphabetIndexSpec)

/-- 'pentaglotlaw01.AlphabetLetters', WHERE WHAT IT READS IS OF BULK AT MOST 1048576: true; the input reads as it did. -/
def alphabetLettersUptoRow : OpenClaim := { program := "ytpgeimihmkampaadoor", sum := "722d82648b578647db02ac62a0807ce0b16f427656ee46aef091048f11358c7f", func := "pentaglot/pentaglotlaw01.AlphabetLetters", spec := "alphabetLetters", unfollowed := true, recurses := true, named := ["unicode/utf8.first", "unicode/utf8.acceptRanges"], apart := false, laid := [("unicode/utf8.acceptRanges", laid_unicode_utf8_acceptRanges), ("unicode/utf8.first", laid_unicode_utf8_first)], narrowed := true }
def AlphabetLettersUptoSaid : Prop := alphabetLettersUptoRow.holds Tryd.pinned (OpenSpec.upto alphabetLettersSpec)

/-- 'pentaglotlaw01.AlphabetPartner', WHERE WHAT IT READS IS OF BULK AT MOST 1048576: true; the input reads as it did. -/
def alphabetPartnerUptoRow : OpenClaim := { program := "ytpgeimihmkampaadoor", sum := "722d82648b578647db02ac62a0807ce0b16f427656ee46aef091048f11358c7f", func := "pentaglot/pentaglotlaw01.AlphabetPartner", spec := "alphabetPartner", unfollowed := true, recurses := true, named := ["unicode/utf8.first", "unicode/utf8.acceptRanges"], apart := false, laid := [("unicode/utf8.acceptRanges", laid_unicode_utf8_acceptRanges), ("unicode/utf8.first", laid_unicode_utf8_first)], narrowed := true }
def AlphabetPartnerUptoSaid : Prop := alphabetPartnerUptoRow.holds Tryd.pinned (OpenSpec.upto alphabetPartnerSpec)

/-- 'pentaglotlaw01.AlphabetSelect', WHERE WHAT IT READS IS OF BULK AT MOST 1048576: true; the input reads as it did. -/
def alphabetSelectUptoRow : OpenClaim := { program := "ytpgeimihmkampaadoor", sum := "722d82648b578647db02ac62a0807ce0b16f427656ee46aef091048f11358c7f", func := "pentaglot/pentaglotlaw01.AlphabetSelect", spec := "alphabetSelect", unfollowed := true, recurses := true, named := ["unicode/utf8.first", "unicode/utf8.acceptRanges"], apart := false, laid := [("unicode/utf8.acceptRanges", laid_unicode_utf8_acceptRanges), ("unicode/utf8.first", laid_unicode_utf8_first)], narrowed := true }
def AlphabetSelectUptoSaid : Prop := alphabetSelectUptoRow.holds Tryd.pinned (OpenSpec.upto alphabetSelectSpec)

/-- 'pentaglotlaw01.AlphabetSort', WHERE WHAT IT READS IS OF BULK AT MOST 1048576: true; the input reads as it did. -/
def alphabetSortUptoRow : OpenClaim := { program := "ytpgeimihmkampaadoor", sum := "722d82648b578647db02ac62a0807ce0b16f427656ee46aef091048f11358c7f", func := "pentaglot/pentaglotlaw01.AlphabetSort", spec := "alphabetSort", unfollowed := true, recurses := true, named := ["unicode/utf8.first", "unicode/utf8.acceptRanges"], apart := false, laid := [("unicode/utf8.acceptRanges", laid_unicode_utf8_acceptRanges), ("unicode/utf8.first", laid_unicode_utf8_first)], narrowed := true }
def AlphabetSortUptoSaid : Prop := alphabetSortUptoRow.holds Tryd.pinned (OpenSpec.upto alphabetSortSpec)

/-- 'pentaglotlaw01.AlphabetSorted', WHERE WHAT IT READS IS OF BULK AT MOST 1048576: true; the input reads as it did. -/
def alphabetSortedUptoRow : OpenClaim := { program := "ytpgeimihmkampaadoor", sum := "722d82648b578647db02ac62a0807ce0b16f427656ee46aef091048f11358c7f", func := "pentaglot/pentaglotlaw01.AlphabetSorted", spec := "alphabetSorted", unfollowed := true, recurses := true, named := ["unicode/utf8.first", "unicode/utf8.acceptRanges"], apart := false, laid := [("unicode/utf8.acceptRanges", laid_unicode_utf8_acceptRanges), ("unicode/utf8.first", laid_unicode_utf8_first)], narrowed := true }
def AlphabetSortedUptoSaid : Prop := alphabetSortedUptoRow.holds Tryd.pinned (OpenSpec.upto alphabetSortedSpec)

end Rows
end Go.Proofs.YtpgeimihmkampaaDoor
