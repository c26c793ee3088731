/-
  DERIVED. GIVEN WITH THE SEED: THE CARDS: each row of YtpgeimihmkampaaDoorRows.lean that lists a variable, with what it lists TIED to the program's text (the seventh form; the later family's looks); each row that meets fmt, with fmt's text TOLD by the authors' own Lean function (tested against real Go, not proved from fmt's source: count such statements apart). THE CARD IS WHAT COUNTS. Prove the row's statement (the work); the ties are given (YtpgeimihmkampaaDoorTie.lean); close each card by the builder's one call (the guide's Derived/Test/ToyasCard.lean, 'card_holds'). Laid BY PROGRAM, IN A SANDBOX (cutbox-door.mjs). By AI agents, Wed Nov 11 2026. No macro, syntax, notation, axiom, sorry.
-/
import Derived.Test.YtpgeimihmkampaaDoorRows
import GoSem.ClaimSeven
namespace Go.Proofs.YtpgeimihmkampaaDoor
namespace Rows

/-- THE TIED CARD OF 'pentaglotlaw01.AlphabetValid'. -/
def alphabetValidCard : Claim7 := { stood := { row := alphabetValidRow, standIns := [], harness := (true, "757727683e5d3a4585ee72ba20228426dd78365d602b06d3fab35305948c8b0f"), looks := false }, kinds := [], alts := [], laidByText := true, laidKinds := [.data, .pinned], laidTests := true, laidLooks := .later }
def AlphabetValidCardSaid : Prop := Claim7.holds Tryd.pinned (.plain (OpenSpec.ofChange alphabetValidSpec)) alphabetValidCard

/-- THE TIED CARD OF 'pentaglotlaw01.AlphabetWord'. -/
def alphabetWordCard : Claim7 := { stood := { row := alphabetWordRow, standIns := [], harness := (true, "757727683e5d3a4585ee72ba20228426dd78365d602b06d3fab35305948c8b0f"), looks := false }, kinds := [], alts := [], laidByText := true, laidKinds := [.data, .pinned], laidTests := true, laidLooks := .later }
def AlphabetWordCardSaid : Prop := Claim7.holds Tryd.pinned (.plain (OpenSpec.ofChange alphabetWordSpec)) alphabetWordCard

/-- THE TIED CARD OF 'pentaglotlaw01.AlphabetJoins'. -/
def alphabetJoinsCard : Claim7 := { stood := { row := alphabetJoinsRow, standIns := [], harness := (true, "757727683e5d3a4585ee72ba20228426dd78365d602b06d3fab35305948c8b0f"), looks := false }, kinds := [], alts := [], laidByText := true, laidKinds := [.data, .pinned], laidTests := true, laidLooks := .later }
def AlphabetJoinsCardSaid : Prop := Claim7.holds Tryd.pinned (.plain (OpenSpec.ofChange alphabetJoinsSpec)) alphabetJoinsCard

/-- THE TIED CARD OF 'pentaglotlaw01.AlphabetCompare'. -/
def alphabetCompareCard : Claim7 := { stood := { row := alphabetCompareRow, standIns := [], harness := (true, "757727683e5d3a4585ee72ba20228426dd78365d602b06d3fab35305948c8b0f"), looks := false }, kinds := [], alts := [], laidByText := true, laidKinds := [.data, .pinned], laidTests := true, laidLooks := .later }
def AlphabetCompareCardSaid : Prop := Claim7.holds Tryd.pinned (.plain (OpenSpec.ofChange alphabetCompareSpec)) alphabetCompareCard

/-- THE TIED CARD OF 'pentaglotlaw01.AlphabetOrder'. -/
def alphabetOrderCard : Claim7 := { stood := { row := alphabetOrderRow, standIns := [], harness := (true, "757727683e5d3a4585ee72ba20228426dd78365d602b06d3fab35305948c8b0f"), looks := false }, kinds := [], alts := [], laidByText := true, laidKinds := [.data, .pinned], laidTests := true, laidLooks := .later }
def AlphabetOrderCardSaid : Prop := Claim7.holds Tryd.pinned (.plain (OpenSpec.ofChange alphabetOrderSpec)) alphabetOrderCard

/-- THE TIED CARD OF 'pentaglotlaw01.AlphabetWords'. -/
def alphabetWordsCard : Claim7 := { stood := { row := alphabetWordsRow, standIns := [], harness := (true, "757727683e5d3a4585ee72ba20228426dd78365d602b06d3fab35305948c8b0f"), looks := false }, kinds := [], alts := [], laidByText := true, laidKinds := [.data, .pinned], laidTests := true, laidLooks := .later }
def AlphabetWordsCardSaid : Prop := Claim7.holds Tryd.pinned (.plain (OpenSpec.ofChange alphabetWordsSpec)) alphabetWordsCard

/-- THE TIED CARD OF 'pentaglotlaw01.AlphabetAscends'. -/
def alphabetAscendsCard : Claim7 := { stood := { row := alphabetAscendsRow, standIns := [], harness := (true, "757727683e5d3a4585ee72ba20228426dd78365d602b06d3fab35305948c8b0f"), looks := false }, kinds := [], alts := [], laidByText := true, laidKinds := [.data, .pinned], laidTests := true, laidLooks := .later }
def AlphabetAscendsCardSaid : Prop := Claim7.holds Tryd.pinned (.plain (OpenSpec.ofChange alphabetAscendsSpec)) alphabetAscendsCard

/-- THE TIED CARD OF 'pentaglotlaw01.AlphabetIndex'. -/
def alphabetIndexCard : Claim7 := { stood := { row := alphabetIndexRow, standIns := [], harness := (true, "757727683e5d3a4585ee72ba20228426dd78365d602b06d3fab35305948c8b0f"), looks := false }, kinds := [], alts := [], laidByText := true, laidKinds := [.data, .pinned], laidTests := true, laidLooks := .later }
def AlphabetIndexCardSaid : Prop := Claim7.holds Tryd.pinned (.plain (OpenSpec.ofChange alphabetIndexSpec)) alphabetIndexCard

/-- THE TIED CARD OF 'pentaglotlaw01.AlphabetLetters'. -/
def alphabetLettersCard : Claim7 := { stood := { row := alphabetLettersRow, standIns := [], harness := (true, "757727683e5d3a4585ee72ba20228426dd78365d602b06d3fab35305948c8b0f"), looks := false }, kinds := [], alts := [], laidByText := true, laidKinds := [.data, .pinned], laidTests := true, laidLooks := .later }
def AlphabetLettersCardSaid : Prop := Claim7.holds Tryd.pinned (.plain (OpenSpec.ofChange alphabetLettersSpec)) alphabetLettersCard

/-- THE TIED CARD OF 'pentaglotlaw01.AlphabetPartner'. -/
def alphabetPartnerCard : Claim7 := { stood := { row := alphabetPartnerRow, standIns := [], harness := (true, "757727683e5d3a4585ee72ba20228426dd78365d602b06d3fab35305948c8b0f"), looks := false }, kinds := [], alts := [], laidByText := true, laidKinds := [.data, .pinned], laidTests := true, laidLooks := .later }
def AlphabetPartnerCardSaid : Prop := Claim7.holds Tryd.pinned (.plain (OpenSpec.ofChange alphabetPartnerSpec)) alphabetPartnerCard

/-- THE TIED CARD OF 'pentaglotlaw01.AlphabetSelect'. -/
def alphabetSelectCard : Claim7 := { stood := { row := alphabetSelectRow, standIns := [], harness := (true, "757727683e5d3a4585ee72ba20228426dd78365d602b06d3fab35305948c8b0f"), looks := false }, kinds := [], alts := [], laidByText := true, laidKinds := [.data, .pinned], laidTests := true, laidLooks := .later }
def AlphabetSelectCardSaid : Prop := Claim7.holds Tryd.pinned (.plain (OpenSpec.ofChange alphabetSelectSpec)) alphabetSelectCard

/-- THE TIED CARD OF 'pentaglotlaw01.AlphabetSort'. -/
def alphabetSortCard : Claim7 := { stood := { row := alphabetSortRow, standIns := [], harness := (true, "757727683e5d3a4585ee72ba20228426dd78365d602b06d3fab35305948c8b0f"), looks := false }, kinds := [], alts := [], laidByText := true, laidKinds := [.data, .pinned], laidTests := true, laidLooks := .later }
def AlphabetSortCardSaid : Prop := Claim7.holds Tryd.pinned (.plain (OpenSpec.ofChange alphabetSortSpec)) alphabetSortCard

/-- THE TIED CARD OF 'pentaglotlaw01.AlphabetSorted'. -/
def alphabetSortedCard : Claim7 := { stood := { row := alphabetSortedRow, standIns := [], harness := (true, "757727683e5d3a4585ee72ba20228426dd78365d602b06d3fab35305948c8b0f"), looks := false }, kinds := [], alts := [], laidByText := true, laidKinds := [.data, .pinned], laidTests := true, laidLooks := .later }
def AlphabetSortedCardSaid : Prop := Claim7.holds Tryd.pinned (.plain (OpenSpec.ofChange alphabetSortedSpec)) alphabetSortedCard

/-- THE SECOND FORM's CARD OF 'pentaglotlaw01.AlphabetValid'. -/
def alphabetValidUptoCard : Claim7 := { stood := { row := alphabetValidUptoRow, standIns := [], harness := (true, "757727683e5d3a4585ee72ba20228426dd78365d602b06d3fab35305948c8b0f"), looks := false }, kinds := [], alts := [], laidByText := true, laidKinds := [.data, .pinned], laidTests := true, laidLooks := .later }
def AlphabetValidUptoCardSaid : Prop := Claim7.holds Tryd.pinned (.plain (OpenSpec.upto alphabetValidSpec)) alphabetValidUptoCard

/-- THE SECOND FORM's CARD OF 'pentaglotlaw01.AlphabetWord'. -/
def alphabetWordUptoCard : Claim7 := { stood := { row := alphabetWordUptoRow, standIns := [], harness := (true, "757727683e5d3a4585ee72ba20228426dd78365d602b06d3fab35305948c8b0f"), looks := false }, kinds := [], alts := [], laidByText := true, laidKinds := [.data, .pinned], laidTests := true, laidLooks := .later }
def AlphabetWordUptoCardSaid : Prop := Claim7.holds Tryd.pinned (.plain (OpenSpec.upto alphabetWordSpec)) alphabetWordUptoCard

/-- THE SECOND FORM's CARD OF 'pentaglotlaw01.AlphabetJoins'. -/
def alphabetJoinsUptoCard : Claim7 := { stood := { row := alphabetJoinsUptoRow, standIns := [], harness := (true, "757727683e5d3a4585ee72ba20228426dd78365d602b06d3fab35305948c8b0f"), looks := false }, kinds := [], alts := [], laidByText := true, laidKinds := [.data, .pinned], laidTests := true, laidLooks := .later }
def AlphabetJoinsUptoCardSaid : Prop := Claim7.holds Tryd.pinned (.plain (OpenSpec.upto alphabetJoinsSpec)) alphabetJoinsUptoCard

/-- THE SECOND FORM's CARD OF 'pentaglotlaw01.AlphabetCompare'. -/
def alphabetCompareUptoCard : Claim7 := { stood := { row := alphabetCompareUptoRow, standIns := [], harness := (true, "757727683e5d3a4585ee72ba20228426dd78365d602b06d3fab35305948c8b0f"), looks := false }, kinds := [], alts := [], laidByText := true, laidKinds := [.data, .pinned], laidTests := true, laidLooks := .later }
def AlphabetCompareUptoCardSaid : Prop := Claim7.holds Tryd.pinned (.plain (OpenSpec.upto alphabetCompareSpec)) alphabetCompareUptoCard

/-- THE SECOND FORM's CARD OF 'pentaglotlaw01.AlphabetOrder'. -/
def alphabetOrderUptoCard : Claim7 := { stood := { row := alphabetOrderUptoRow, standIns := [], harness := (true, "757727683e5d3a4585ee72ba20228426dd78365d602b06d3fab35305948c8b0f"), looks := false }, kinds := [], alts := [], laidByText := true, laidKinds := [.data, .pinned], laidTests := true, laidLooks := .later }
def AlphabetOrderUptoCardSaid : Prop := Claim7.holds Tryd.pinned (.plain (OpenSpec.upto alphabetOrderSpec)) alphabetOrderUptoCard

/-- THE SECOND FORM's CARD OF 'pentaglotlaw01.AlphabetWords'. -/
def alphabetWordsUptoCard : Claim7 := { stood := { row := alphabetWordsUptoRow, standIns := [], harness := (true, "757727683e5d3a4585ee72ba20228426dd78365d602b06d3fab35305948c8b0f"), looks := false }, kinds := [], alts := [], laidByText := true, laidKinds := [.data, .pinned], laidTests := true, laidLooks := .later }
def AlphabetWordsUptoCardSaid : Prop := Claim7.holds Tryd.pinned (.plain (OpenSpec.upto alphabetWordsSpec)) alphabetWordsUptoCard

/-- THE SECOND FORM's CARD OF 'pentaglotlaw01.AlphabetAscends'. -/
def alphabetAscendsUptoCard : Claim7 := { stood := { row := alphabetAscendsUptoRow, standIns := [], harness := (true, "757727683e5d3a4585ee72ba20228426dd78365d602b06d3fab35305948c8b0f"), looks := false }, kinds := [], alts := [], laidByText := true, laidKinds := [.data, .pinned], laidTests := true, laidLooks := .later }
def AlphabetAscendsUptoCardSaid : Prop := Claim7.holds Tryd.pinned (.plain (OpenSpec.upto alphabetAscendsSpec)) alphabetAscendsUptoCard

/-- THE SECOND FORM's CARD OF 'pentaglotlaw01.AlphabetIndex'. -/
def alphabetIndexUptoCard : Claim7 := { stood := { row := alphabetIndexUptoRow, standIns := [], harness := (true, "757727683e5d3a4585ee72ba20228426dd78365d602b06d3fab35305948c8b0f"), looks := false }, kinds := [], alts := [], laidByText := true, laidKinds := [.data, .pinned], laidTests := true, laidLooks := .later }
def AlphabetIndexUptoCardSaid : Prop := Claim7.holds Tryd.pinned (.plain (OpenSpec.upto alphabetIndexSpec)) alphabetIndexUptoCard

/-- THE SECOND FORM's CARD OF 'pentaglotlaw01.AlphabetLetters'. -/
def alphabetLettersUptoCard : Claim7 := { stood := { row := alphabetLettersUptoRow, standIns := [], harness := (true, "757727683e5d3a4585ee72ba20228426dd78365d602b06d3fab35305948c8b0f"), looks := false }, kinds := [], alts := [], laidByText := true, laidKinds := [.data, .pinned], laidTests := true, laidLooks := .later }
def AlphabetLettersUptoCardSaid : Prop := Claim7.holds Tryd.pinned (.plain (OpenSpec.upto alphabetLettersSpec)) alphabetLettersUptoCard

/-- THE SECOND FORM's CARD OF 'pentaglotlaw01.AlphabetPartner'. -/
def alphabetPartnerUptoCard : Claim7 := { stood := { row := alphabetPartnerUptoRow, standIns := [], harness := (true, "757727683e5d3a4585ee72ba20228426dd78365d602b06d3fab35305948c8b0f"), looks := false }, kinds := [], alts := [], laidByText := true, laidKinds := [.data, .pinned], laidTests := true, laidLooks := .later }
def AlphabetPartnerUptoCardSaid : Prop := Claim7.holds Tryd.pinned (.plain (OpenSpec.upto alphabetPartnerSpec)) alphabetPartnerUptoCard

/-- THE SECOND FORM's CARD OF 'pentaglotlaw01.AlphabetSelect'. -/
def alphabetSelectUptoCard : Claim7 := { stood := { row := alphabetSelectUptoRow, standIns := [], harness := (true, "757727683e5d3a4585ee72ba20228426dd78365d602b06d3fab35305948c8b0f"), looks := false }, kinds := [], alts := [], laidByText := true, laidKinds := [.data, .pinned], laidTests := true, laidLooks := .later }
def AlphabetSelectUptoCardSaid : Prop := Claim7.holds Tryd.pinned (.plain (OpenSpec.upto alphabetSelectSpec)) alphabetSelectUptoCard

/-- THE SECOND FORM's CARD OF 'pentaglotlaw01.AlphabetSort'. -/
def alphabetSortUptoCard : Claim7 := { stood := { row := alphabetSortUptoRow, standIns := [], harness := (true, "757727683e5d3a4585ee72ba20228426dd78365d602b06d3fab35305948c8b0f"), looks := false }, kinds := [], alts := [], laidByText := true, laidKinds := [.data, .pinned], laidTests := true, laidLooks := .later }
def AlphabetSortUptoCardSaid : Prop := Claim7.holds Tryd.pinned (.plain (OpenSpec.upto alphabetSortSpec)) alphabetSortUptoCard

/-- THE SECOND FORM's CARD OF 'pentaglotlaw01.AlphabetSorted'. -/
def alphabetSortedUptoCard : Claim7 := { stood := { row := alphabetSortedUptoRow, standIns := [], harness := (true, "757727683e5d3a4585ee72ba20228426dd78365d602b06d3fab35305948c8b0f"), looks := false }, kinds := [], alts := [], laidByText := true, laidKinds := [.data, .pinned], laidTests := true, laidLooks := .later }
def AlphabetSortedUptoCardSaid : Prop := Claim7.holds Tryd.pinned (.plain (OpenSpec.upto alphabetSortedSpec)) alphabetSortedUptoCard
end Rows
end Go.Proofs.YtpgeimihmkampaaDoor
