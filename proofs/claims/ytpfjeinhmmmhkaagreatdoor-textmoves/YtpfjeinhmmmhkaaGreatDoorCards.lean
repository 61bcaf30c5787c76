/-
  DERIVED. GIVEN WITH THE SEED: THE CARDS: each row of YtpfjeinhmmmhkaaGreatDoorRows.lean that lists a variable, with what it lists TIED to the program's text (the seventh form; the later family's looks); each row that meets fmt, with fmt's text TOLD by the authors' own Lean function (tested against real Go, not proved from fmt's source: count such statements apart). THE CARD IS WHAT COUNTS. Prove the row's statement (the work); the ties are given (YtpfjeinhmmmhkaaGreatDoorTie.lean); close each card by the builder's one call (the guide's Derived/Test/ToyasCard.lean, 'card_holds'). Laid BY PROGRAM, IN A SANDBOX (cutbox-door.mjs). By AI agents, Wed Nov 11 2026. No macro, syntax, notation, axiom, sorry.
-/
import Derived.Test.YtpfjeinhmmmhkaaGreatDoorRows
import GoSem.ClaimSeven
namespace Go.Proofs.YtpfjeinhmmmhkaaGreatDoor
namespace Rows

/-- THE TIED CARD OF 'cashbooklaw13.TextTells'. -/
def textTellsCard : Claim7 := { stood := { row := textTellsRow, standIns := [], harness := (true, "5433e4c9650e7785cac1ca293315b074176ea3c6c9f09722b6ffea58bae47ff8"), looks := true }, kinds := [], alts := [], laidByText := true, laidKinds := [.data, .data, .data, .data, .sentinel, .sentinel, .pinned], laidTests := true, laidLooks := .later }
def TextTellsCardSaid : Prop := Claim7.holds Tryz.pinned (.plain (OpenSpec.ofChange textTellsSpec)) textTellsCard

/-- THE TIED CARD OF 'cashbooklaw13.TextStrips'. -/
def textStripsCard : Claim7 := { stood := { row := textStripsRow, standIns := [], harness := (true, "5433e4c9650e7785cac1ca293315b074176ea3c6c9f09722b6ffea58bae47ff8"), looks := true }, kinds := [], alts := [], laidByText := true, laidKinds := [.data, .data, .data, .data, .sentinel, .sentinel, .pinned], laidTests := true, laidLooks := .later }
def TextStripsCardSaid : Prop := Claim7.holds Tryz.pinned (.plain (OpenSpec.ofChange textStripsSpec)) textStripsCard

/-- THE TIED CARD OF 'cashbooklaw13.TextMoves'. -/
def textMovesCard : Claim7 := { stood := { row := textMovesRow, standIns := [], harness := (true, "5433e4c9650e7785cac1ca293315b074176ea3c6c9f09722b6ffea58bae47ff8"), looks := true }, kinds := [], alts := [], laidByText := true, laidKinds := [.data, .data, .data, .data, .sentinel, .sentinel, .pinned], laidTests := true, laidLooks := .later }
def TextMovesCardSaid : Prop := Claim7.holds Tryz.pinned (.plain (OpenSpec.ofChange textMovesSpec)) textMovesCard

/-- THE TIED CARD OF 'cashbooklaw13.TextSigns'. -/
def textSignsCard : Claim7 := { stood := { row := textSignsRow, standIns := [], harness := (true, "5433e4c9650e7785cac1ca293315b074176ea3c6c9f09722b6ffea58bae47ff8"), looks := true }, kinds := [], alts := [], laidByText := true, laidKinds := [.data, .data, .data, .data, .sentinel, .sentinel, .pinned], laidTests := true, laidLooks := .later }
def TextSignsCardSaid : Prop := Claim7.holds Tryz.pinned (.plain (OpenSpec.ofChange textSignsSpec)) textSignsCard

/-- THE TIED CARD OF 'cashbooklaw13.TextBrackets'. -/
def textBracketsCard : Claim7 := { stood := { row := textBracketsRow, standIns := [], harness := (true, "5433e4c9650e7785cac1ca293315b074176ea3c6c9f09722b6ffea58bae47ff8"), looks := true }, kinds := [], alts := [], laidByText := true, laidKinds := [.data, .data, .data, .data, .sentinel, .sentinel, .pinned], laidTests := true, laidLooks := .later }
def TextBracketsCardSaid : Prop := Claim7.holds Tryz.pinned (.plain (OpenSpec.ofChange textBracketsSpec)) textBracketsCard

/-- THE SECOND FORM's CARD OF 'cashbooklaw13.TextTells'. -/
def textTellsUptoCard : Claim7 := { stood := { row := textTellsUptoRow, standIns := [], harness := (true, "5433e4c9650e7785cac1ca293315b074176ea3c6c9f09722b6ffea58bae47ff8"), looks := true }, kinds := [], alts := [], laidByText := true, laidKinds := [.data, .data, .data, .data, .sentinel, .sentinel, .pinned], laidTests := true, laidLooks := .later }
def TextTellsUptoCardSaid : Prop := Claim7.holds Tryz.pinned (.plain (OpenSpec.upto textTellsSpec)) textTellsUptoCard

/-- THE SECOND FORM's CARD OF 'cashbooklaw13.TextStrips'. -/
def textStripsUptoCard : Claim7 := { stood := { row := textStripsUptoRow, standIns := [], harness := (true, "5433e4c9650e7785cac1ca293315b074176ea3c6c9f09722b6ffea58bae47ff8"), looks := true }, kinds := [], alts := [], laidByText := true, laidKinds := [.data, .data, .data, .data, .sentinel, .sentinel, .pinned], laidTests := true, laidLooks := .later }
def TextStripsUptoCardSaid : Prop := Claim7.holds Tryz.pinned (.plain (OpenSpec.upto textStripsSpec)) textStripsUptoCard

/-- THE SECOND FORM's CARD OF 'cashbooklaw13.TextMoves'. -/
def textMovesUptoCard : Claim7 := { stood := { row := textMovesUptoRow, standIns := [], harness := (true, "5433e4c9650e7785cac1ca293315b074176ea3c6c9f09722b6ffea58bae47ff8"), looks := true }, kinds := [], alts := [], laidByText := true, laidKinds := [.data, .data, .data, .data, .sentinel, .sentinel, .pinned], laidTests := true, laidLooks := .later }
def TextMovesUptoCardSaid : Prop := Claim7.holds Tryz.pinned (.plain (OpenSpec.upto textMovesSpec)) textMovesUptoCard

/-- THE SECOND FORM's CARD OF 'cashbooklaw13.TextSigns'. -/
def textSignsUptoCard : Claim7 := { stood := { row := textSignsUptoRow, standIns := [], harness := (true, "5433e4c9650e7785cac1ca293315b074176ea3c6c9f09722b6ffea58bae47ff8"), looks := true }, kinds := [], alts := [], laidByText := true, laidKinds := [.data, .data, .data, .data, .sentinel, .sentinel, .pinned], laidTests := true, laidLooks := .later }
def TextSignsUptoCardSaid : Prop := Claim7.holds Tryz.pinned (.plain (OpenSpec.upto textSignsSpec)) textSignsUptoCard

/-- THE SECOND FORM's CARD OF 'cashbooklaw13.TextBrackets'. -/
def textBracketsUptoCard : Claim7 := { stood := { row := textBracketsUptoRow, standIns := [], harness := (true, "5433e4c9650e7785cac1ca293315b074176ea3c6c9f09722b6ffea58bae47ff8"), looks := true }, kinds := [], alts := [], laidByText := true, laidKinds := [.data, .data, .data, .data, .sentinel, .sentinel, .pinned], laidTests := true, laidLooks := .later }
def TextBracketsUptoCardSaid : Prop := Claim7.holds Tryz.pinned (.plain (OpenSpec.upto textBracketsSpec)) textBracketsUptoCard
end Rows
end Go.Proofs.YtpfjeinhmmmhkaaGreatDoor
