/-
  DERIVED. GIVEN WITH THE SEED: THE CARDS: each row of YtbngfhlciebeeaaDoorRows.lean that lists a variable, with what it lists TIED to the program's text (the seventh form; the later family's looks); each row that meets fmt, with fmt's text TOLD by the authors' own Lean function (tested against real Go, not proved from fmt's source: count such statements apart). THE CARD IS WHAT COUNTS. Prove the row's statement (the work); the ties are given (YtbngfhlciebeeaaDoorTie.lean); close each card by the builder's one call (the guide's Derived/Test/ToyasCard.lean, 'card_holds'). Laid BY PROGRAM, IN A SANDBOX (cutbox-door.mjs). By AI agents, Wed Nov 11 2026. No macro, syntax, notation, axiom, sorry.
-/
import Derived.Test.YtbngfhlciebeeaaDoorRows
import GoSem.ClaimSeven
namespace Go.Proofs.YtbngfhlciebeeaaDoor
namespace Rows

/-- THE TIED CARD OF 'whirligiglaw02.TokLexes'. -/
def tokLexesCard : Claim7 := { stood := { row := tokLexesRow, standIns := [], harness := (true, "b5ba6cabf14d8a65d356cf41103c832b2e40a53cc64770ba8710c5396ea7c775"), looks := false }, kinds := [], alts := [], laidByText := true, laidKinds := [.data], laidTests := true, laidLooks := .later }
def TokLexesCardSaid : Prop := Claim7.holds Tryd.pinned (.plain (OpenSpec.ofChange tokLexesSpec)) tokLexesCard

/-- THE TIED CARD OF 'whirligiglaw02.TokPlaces'. -/
def tokPlacesCard : Claim7 := { stood := { row := tokPlacesRow, standIns := [], harness := (true, "b5ba6cabf14d8a65d356cf41103c832b2e40a53cc64770ba8710c5396ea7c775"), looks := false }, kinds := [], alts := [], laidByText := true, laidKinds := [.data], laidTests := true, laidLooks := .later }
def TokPlacesCardSaid : Prop := Claim7.holds Tryd.pinned (.plain (OpenSpec.ofChange tokPlacesSpec)) tokPlacesCard

/-- THE TIED CARD OF 'whirligiglaw02.TokIs'. -/
def tokIsCard : Claim7 := { stood := { row := tokIsRow, standIns := [], harness := (true, "b5ba6cabf14d8a65d356cf41103c832b2e40a53cc64770ba8710c5396ea7c775"), looks := false }, kinds := [], alts := [], laidByText := true, laidKinds := [.data], laidTests := true, laidLooks := .later }
def TokIsCardSaid : Prop := Claim7.holds Tryd.pinned (.plain (OpenSpec.ofChange tokIsSpec)) tokIsCard

/-- THE TIED CARD OF 'whirligiglaw02.TokNames'. -/
def tokNamesCard : Claim7 := { stood := { row := tokNamesRow, standIns := [], harness := (true, "b5ba6cabf14d8a65d356cf41103c832b2e40a53cc64770ba8710c5396ea7c775"), looks := false }, kinds := [], alts := [], laidByText := true, laidKinds := [.data], laidTests := true, laidLooks := .later }
def TokNamesCardSaid : Prop := Claim7.holds Tryd.pinned (.plain (OpenSpec.ofChange tokNamesSpec)) tokNamesCard

/-- THE TIED CARD OF 'whirligiglaw02.TokJoins'. -/
def tokJoinsCard : Claim7 := { stood := { row := tokJoinsRow, standIns := [], harness := (true, "b5ba6cabf14d8a65d356cf41103c832b2e40a53cc64770ba8710c5396ea7c775"), looks := false }, kinds := [], alts := [], laidByText := true, laidKinds := [.data], laidTests := true, laidLooks := .later }
def TokJoinsCardSaid : Prop := Claim7.holds Tryd.pinned (.plain (OpenSpec.ofChange tokJoinsSpec)) tokJoinsCard

/-- THE TIED CARD OF 'whirligiglaw22.TreeRight'. -/
def treeRightCard : Claim7 := { stood := { row := treeRightRow, standIns := [], harness := (true, "b5ba6cabf14d8a65d356cf41103c832b2e40a53cc64770ba8710c5396ea7c775"), looks := false }, kinds := [], alts := [], laidByText := true, laidKinds := [.data], laidTests := true, laidLooks := .later }
def TreeRightCardSaid : Prop := Claim7.holds Tryd.pinned (.plain (OpenSpec.ofChange treeRightSpec)) treeRightCard

/-- THE TIED CARD OF 'whirligiglaw22.TreeMoves'. -/
def treeMovesCard : Claim7 := { stood := { row := treeMovesRow, standIns := [], harness := (true, "b5ba6cabf14d8a65d356cf41103c832b2e40a53cc64770ba8710c5396ea7c775"), looks := false }, kinds := [], alts := [], laidByText := true, laidKinds := [.data], laidTests := true, laidLooks := .later }
def TreeMovesCardSaid : Prop := Claim7.holds Tryd.pinned (.plain (OpenSpec.ofChange treeMovesSpec)) treeMovesCard

/-- THE TIED CARD OF 'whirligiglaw22.TreePlays'. -/
def treePlaysCard : Claim7 := { stood := { row := treePlaysRow, standIns := [], harness := (true, "b5ba6cabf14d8a65d356cf41103c832b2e40a53cc64770ba8710c5396ea7c775"), looks := false }, kinds := [], alts := [], laidByText := true, laidKinds := [.data], laidTests := true, laidLooks := .later }
def TreePlaysCardSaid : Prop := Claim7.holds Tryd.pinned (.plain (OpenSpec.ofChange treePlaysSpec)) treePlaysCard

/-- THE TIED CARD OF 'whirligiglaw22.TreeEnds'. -/
def treeEndsCard : Claim7 := { stood := { row := treeEndsRow, standIns := [], harness := (true, "b5ba6cabf14d8a65d356cf41103c832b2e40a53cc64770ba8710c5396ea7c775"), looks := false }, kinds := [], alts := [], laidByText := true, laidKinds := [.data], laidTests := true, laidLooks := .later }
def TreeEndsCardSaid : Prop := Claim7.holds Tryd.pinned (.plain (OpenSpec.ofChange treeEndsSpec)) treeEndsCard

/-- THE TIED CARD OF 'whirligiglaw04.KindMore'. -/
def kindMoreCard : Claim7 := { stood := { row := kindMoreRow, standIns := [], harness := (true, "b5ba6cabf14d8a65d356cf41103c832b2e40a53cc64770ba8710c5396ea7c775"), looks := false }, kinds := [], alts := [], laidByText := true, laidKinds := [.data], laidTests := true, laidLooks := .later }
def KindMoreCardSaid : Prop := Claim7.holds Tryd.pinned (.plain (OpenSpec.ofChange kindMoreSpec)) kindMoreCard

/-- THE TIED CARD OF 'whirligiglaw04.KindOf'. -/
def kindOfCard : Claim7 := { stood := { row := kindOfRow, standIns := [], harness := (true, "b5ba6cabf14d8a65d356cf41103c832b2e40a53cc64770ba8710c5396ea7c775"), looks := false }, kinds := [], alts := [], laidByText := true, laidKinds := [.data], laidTests := true, laidLooks := .later }
def KindOfCardSaid : Prop := Claim7.holds Tryd.pinned (.plain (OpenSpec.ofChange kindOfSpec)) kindOfCard

/-- THE TIED CARD OF 'whirligiglaw04.KindForms'. -/
def kindFormsCard : Claim7 := { stood := { row := kindFormsRow, standIns := [], harness := (true, "b5ba6cabf14d8a65d356cf41103c832b2e40a53cc64770ba8710c5396ea7c775"), looks := false }, kinds := [], alts := [], laidByText := true, laidKinds := [.data], laidTests := true, laidLooks := .later }
def KindFormsCardSaid : Prop := Claim7.holds Tryd.pinned (.plain (OpenSpec.ofChange kindFormsSpec)) kindFormsCard

/-- THE TIED CARD OF 'whirligiglaw05.EvalComes'. -/
def evalComesCard : Claim7 := { stood := { row := evalComesRow, standIns := [], harness := (true, "b5ba6cabf14d8a65d356cf41103c832b2e40a53cc64770ba8710c5396ea7c775"), looks := false }, kinds := [], alts := [], laidByText := true, laidKinds := [.data], laidTests := true, laidLooks := .later }
def EvalComesCardSaid : Prop := Claim7.holds Tryd.pinned (.plain (OpenSpec.ofChange evalComesSpec)) evalComesCard

/-- THE TIED CARD OF 'whirligiglaw05.EvalForms'. -/
def evalFormsCard : Claim7 := { stood := { row := evalFormsRow, standIns := [], harness := (true, "b5ba6cabf14d8a65d356cf41103c832b2e40a53cc64770ba8710c5396ea7c775"), looks := false }, kinds := [], alts := [], laidByText := true, laidKinds := [.data], laidTests := true, laidLooks := .later }
def EvalFormsCardSaid : Prop := Claim7.holds Tryd.pinned (.plain (OpenSpec.ofChange evalFormsSpec)) evalFormsCard

/-- THE TIED CARD OF 'whirligiglaw05.EvalShort'. -/
def evalShortCard : Claim7 := { stood := { row := evalShortRow, standIns := [], harness := (true, "b5ba6cabf14d8a65d356cf41103c832b2e40a53cc64770ba8710c5396ea7c775"), looks := false }, kinds := [], alts := [], laidByText := true, laidKinds := [.data], laidTests := true, laidLooks := .later }
def EvalShortCardSaid : Prop := Claim7.holds Tryd.pinned (.plain (OpenSpec.ofChange evalShortSpec)) evalShortCard

/-- THE TIED CARD OF 'whirligiglaw05.EvalTyped'. -/
def evalTypedCard : Claim7 := { stood := { row := evalTypedRow, standIns := [], harness := (true, "b5ba6cabf14d8a65d356cf41103c832b2e40a53cc64770ba8710c5396ea7c775"), looks := false }, kinds := [], alts := [], laidByText := true, laidKinds := [.data], laidTests := true, laidLooks := .later }
def EvalTypedCardSaid : Prop := Claim7.holds Tryd.pinned (.plain (OpenSpec.ofChange evalTypedSpec)) evalTypedCard

/-- THE SECOND FORM's CARD OF 'whirligiglaw02.TokLexes'. -/
def tokLexesUptoCard : Claim7 := { stood := { row := tokLexesUptoRow, standIns := [], harness := (true, "b5ba6cabf14d8a65d356cf41103c832b2e40a53cc64770ba8710c5396ea7c775"), looks := false }, kinds := [], alts := [], laidByText := true, laidKinds := [.data], laidTests := true, laidLooks := .later }
def TokLexesUptoCardSaid : Prop := Claim7.holds Tryd.pinned (.plain (OpenSpec.upto tokLexesSpec)) tokLexesUptoCard

/-- THE SECOND FORM's CARD OF 'whirligiglaw02.TokPlaces'. -/
def tokPlacesUptoCard : Claim7 := { stood := { row := tokPlacesUptoRow, standIns := [], harness := (true, "b5ba6cabf14d8a65d356cf41103c832b2e40a53cc64770ba8710c5396ea7c775"), looks := false }, kinds := [], alts := [], laidByText := true, laidKinds := [.data], laidTests := true, laidLooks := .later }
def TokPlacesUptoCardSaid : Prop := Claim7.holds Tryd.pinned (.plain (OpenSpec.upto tokPlacesSpec)) tokPlacesUptoCard

/-- THE SECOND FORM's CARD OF 'whirligiglaw02.TokIs'. -/
def tokIsUptoCard : Claim7 := { stood := { row := tokIsUptoRow, standIns := [], harness := (true, "b5ba6cabf14d8a65d356cf41103c832b2e40a53cc64770ba8710c5396ea7c775"), looks := false }, kinds := [], alts := [], laidByText := true, laidKinds := [.data], laidTests := true, laidLooks := .later }
def TokIsUptoCardSaid : Prop := Claim7.holds Tryd.pinned (.plain (OpenSpec.upto tokIsSpec)) tokIsUptoCard

/-- THE SECOND FORM's CARD OF 'whirligiglaw02.TokNames'. -/
def tokNamesUptoCard : Claim7 := { stood := { row := tokNamesUptoRow, standIns := [], harness := (true, "b5ba6cabf14d8a65d356cf41103c832b2e40a53cc64770ba8710c5396ea7c775"), looks := false }, kinds := [], alts := [], laidByText := true, laidKinds := [.data], laidTests := true, laidLooks := .later }
def TokNamesUptoCardSaid : Prop := Claim7.holds Tryd.pinned (.plain (OpenSpec.upto tokNamesSpec)) tokNamesUptoCard

/-- THE SECOND FORM's CARD OF 'whirligiglaw02.TokJoins'. -/
def tokJoinsUptoCard : Claim7 := { stood := { row := tokJoinsUptoRow, standIns := [], harness := (true, "b5ba6cabf14d8a65d356cf41103c832b2e40a53cc64770ba8710c5396ea7c775"), looks := false }, kinds := [], alts := [], laidByText := true, laidKinds := [.data], laidTests := true, laidLooks := .later }
def TokJoinsUptoCardSaid : Prop := Claim7.holds Tryd.pinned (.plain (OpenSpec.upto tokJoinsSpec)) tokJoinsUptoCard

/-- THE SECOND FORM's CARD OF 'whirligiglaw22.TreeRight'. -/
def treeRightUptoCard : Claim7 := { stood := { row := treeRightUptoRow, standIns := [], harness := (true, "b5ba6cabf14d8a65d356cf41103c832b2e40a53cc64770ba8710c5396ea7c775"), looks := false }, kinds := [], alts := [], laidByText := true, laidKinds := [.data], laidTests := true, laidLooks := .later }
def TreeRightUptoCardSaid : Prop := Claim7.holds Tryd.pinned (.plain (OpenSpec.upto treeRightSpec)) treeRightUptoCard

/-- THE SECOND FORM's CARD OF 'whirligiglaw22.TreeMoves'. -/
def treeMovesUptoCard : Claim7 := { stood := { row := treeMovesUptoRow, standIns := [], harness := (true, "b5ba6cabf14d8a65d356cf41103c832b2e40a53cc64770ba8710c5396ea7c775"), looks := false }, kinds := [], alts := [], laidByText := true, laidKinds := [.data], laidTests := true, laidLooks := .later }
def TreeMovesUptoCardSaid : Prop := Claim7.holds Tryd.pinned (.plain (OpenSpec.upto treeMovesSpec)) treeMovesUptoCard

/-- THE SECOND FORM's CARD OF 'whirligiglaw22.TreePlays'. -/
def treePlaysUptoCard : Claim7 := { stood := { row := treePlaysUptoRow, standIns := [], harness := (true, "b5ba6cabf14d8a65d356cf41103c832b2e40a53cc64770ba8710c5396ea7c775"), looks := false }, kinds := [], alts := [], laidByText := true, laidKinds := [.data], laidTests := true, laidLooks := .later }
def TreePlaysUptoCardSaid : Prop := Claim7.holds Tryd.pinned (.plain (OpenSpec.upto treePlaysSpec)) treePlaysUptoCard

/-- THE SECOND FORM's CARD OF 'whirligiglaw22.TreeEnds'. -/
def treeEndsUptoCard : Claim7 := { stood := { row := treeEndsUptoRow, standIns := [], harness := (true, "b5ba6cabf14d8a65d356cf41103c832b2e40a53cc64770ba8710c5396ea7c775"), looks := false }, kinds := [], alts := [], laidByText := true, laidKinds := [.data], laidTests := true, laidLooks := .later }
def TreeEndsUptoCardSaid : Prop := Claim7.holds Tryd.pinned (.plain (OpenSpec.upto treeEndsSpec)) treeEndsUptoCard

/-- THE SECOND FORM's CARD OF 'whirligiglaw04.KindMore'. -/
def kindMoreUptoCard : Claim7 := { stood := { row := kindMoreUptoRow, standIns := [], harness := (true, "b5ba6cabf14d8a65d356cf41103c832b2e40a53cc64770ba8710c5396ea7c775"), looks := false }, kinds := [], alts := [], laidByText := true, laidKinds := [.data], laidTests := true, laidLooks := .later }
def KindMoreUptoCardSaid : Prop := Claim7.holds Tryd.pinned (.plain (OpenSpec.upto kindMoreSpec)) kindMoreUptoCard

/-- THE SECOND FORM's CARD OF 'whirligiglaw04.KindOf'. -/
def kindOfUptoCard : Claim7 := { stood := { row := kindOfUptoRow, standIns := [], harness := (true, "b5ba6cabf14d8a65d356cf41103c832b2e40a53cc64770ba8710c5396ea7c775"), looks := false }, kinds := [], alts := [], laidByText := true, laidKinds := [.data], laidTests := true, laidLooks := .later }
def KindOfUptoCardSaid : Prop := Claim7.holds Tryd.pinned (.plain (OpenSpec.upto kindOfSpec)) kindOfUptoCard

/-- THE SECOND FORM's CARD OF 'whirligiglaw04.KindForms'. -/
def kindFormsUptoCard : Claim7 := { stood := { row := kindFormsUptoRow, standIns := [], harness := (true, "b5ba6cabf14d8a65d356cf41103c832b2e40a53cc64770ba8710c5396ea7c775"), looks := false }, kinds := [], alts := [], laidByText := true, laidKinds := [.data], laidTests := true, laidLooks := .later }
def KindFormsUptoCardSaid : Prop := Claim7.holds Tryd.pinned (.plain (OpenSpec.upto kindFormsSpec)) kindFormsUptoCard

/-- THE SECOND FORM's CARD OF 'whirligiglaw05.EvalComes'. -/
def evalComesUptoCard : Claim7 := { stood := { row := evalComesUptoRow, standIns := [], harness := (true, "b5ba6cabf14d8a65d356cf41103c832b2e40a53cc64770ba8710c5396ea7c775"), looks := false }, kinds := [], alts := [], laidByText := true, laidKinds := [.data], laidTests := true, laidLooks := .later }
def EvalComesUptoCardSaid : Prop := Claim7.holds Tryd.pinned (.plain (OpenSpec.upto evalComesSpec)) evalComesUptoCard

/-- THE SECOND FORM's CARD OF 'whirligiglaw05.EvalForms'. -/
def evalFormsUptoCard : Claim7 := { stood := { row := evalFormsUptoRow, standIns := [], harness := (true, "b5ba6cabf14d8a65d356cf41103c832b2e40a53cc64770ba8710c5396ea7c775"), looks := false }, kinds := [], alts := [], laidByText := true, laidKinds := [.data], laidTests := true, laidLooks := .later }
def EvalFormsUptoCardSaid : Prop := Claim7.holds Tryd.pinned (.plain (OpenSpec.upto evalFormsSpec)) evalFormsUptoCard

/-- THE SECOND FORM's CARD OF 'whirligiglaw05.EvalShort'. -/
def evalShortUptoCard : Claim7 := { stood := { row := evalShortUptoRow, standIns := [], harness := (true, "b5ba6cabf14d8a65d356cf41103c832b2e40a53cc64770ba8710c5396ea7c775"), looks := false }, kinds := [], alts := [], laidByText := true, laidKinds := [.data], laidTests := true, laidLooks := .later }
def EvalShortUptoCardSaid : Prop := Claim7.holds Tryd.pinned (.plain (OpenSpec.upto evalShortSpec)) evalShortUptoCard

/-- THE SECOND FORM's CARD OF 'whirligiglaw05.EvalTyped'. -/
def evalTypedUptoCard : Claim7 := { stood := { row := evalTypedUptoRow, standIns := [], harness := (true, "b5ba6cabf14d8a65d356cf41103c832b2e40a53cc64770ba8710c5396ea7c775"), looks := false }, kinds := [], alts := [], laidByText := true, laidKinds := [.data], laidTests := true, laidLooks := .later }
def EvalTypedUptoCardSaid : Prop := Claim7.holds Tryd.pinned (.plain (OpenSpec.upto evalTypedSpec)) evalTypedUptoCard
end Rows
end Go.Proofs.YtbngfhlciebeeaaDoor
