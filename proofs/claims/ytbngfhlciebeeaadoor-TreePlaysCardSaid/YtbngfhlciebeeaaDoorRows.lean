/-
  NARROWER THAN 'FOR EVERY INPUT', by the rows' own cells (each row's printed sentence says how): TokLexes: laid · TokPlaces: laid · TokIs: laid · TokNames: laid · TokJoins: laid · TreeRight: laid · TreeMoves: laid · TreePlays: laid · TreeEnds: laid · KindMore: laid · KindOf: laid · KindForms: laid · EvalComes: laid · EvalForms: laid · EvalShort: laid · EvalTyped: laid.
  DERIVED. THE GIVEN ROWS OF THIS SEAT. 16 by the template 'for every input the law returns true; each argument reads behind the call as it read before'; 0 by the template 'total and deterministic' (their statements: YtbngfhlciebeeaaDoorTotals.lean).
  GIVEN WITH THE SEED: the statements are not yours to turn. If you find one false, say at which input.
  Laid BY PROGRAM, IN A SANDBOX (cutbox-rows.mjs): the forced cells as the released guide's own fill.sh prints them over the translation df7f23bf4fedd783… (all of the seat's roots in one cut). By AI agents, Wed Nov 11 2026. No macro, syntax, notation, axiom, sorry.
-/
import Derived.Test.YtbngfhlciebeeaaDoorChecked
import GoSem.Claim
import GoSem.ClaimJoined
import GoSem.ClaimMapViews
import Derived.JoinedTies
import Derived.KernelRfl
namespace Go.Proofs.YtbngfhlciebeeaaDoor
/- THE CELL 'sum', in the pinned program and in every row, IS THE sha256 OF THE DUMP (.gsa) THAT YtbngfhlciebeeaaDoorProg.lean LOADS. Nothing in Lean hashes anything: it is a label: what it is worth is what the hold of that sum in a sandbox is worth. -/
noncomputable def Tryd.pinned : Pinned := { name := "ytbngfhlciebeeaadoor", sum := "df7f23bf4fedd7838f634cbc658cc7b344c51275007750a14c812e9bac305310", checked := Tryd.checked }
namespace Rows
def none {H : Type} : Left H := { results := [], args := [] }

/- WHAT THE LISTED PACKAGE-LEVEL VARIABLES READ AS WHEN THE CALL BEGINS. Each datum BY PROGRAM (the guide's laid-datum.mjs) off the statement by which the dump's own 'gosem.cut.vars' lays the variable. In a bare row this is a premise. The card (YtbngfhlciebeeaaDoorCards.lean) ties it to the program's text. -/
def laid_whirligig_tok_signs {H : Type} : DataW H := .agg [.lit (.string [60, 61]), .lit (.string [62, 61]), .lit (.string [33, 61]), .lit (.string [40]), .lit (.string [41]), .lit (.string [59]), .lit (.string [58]), .lit (.string [43]), .lit (.string [45]), .lit (.string [42]), .lit (.string [47]), .lit (.string [37]), .lit (.string [60]), .lit (.string [62]), .lit (.string [61])]

/-- 'whirligiglaw02.TokLexes': WHATEVER THE INPUT: true; the input reads as it did. -/
def tokLexesSpec : ChangeSpec := { name := "tokLexes", fn := fun _ => fun
  | [d] => { results := [.lit (.bool true)], args := [d] }
  | _ => none }
def tokLexesRow : OpenClaim := { program := "ytbngfhlciebeeaadoor", sum := "df7f23bf4fedd7838f634cbc658cc7b344c51275007750a14c812e9bac305310", func := "whirligig/whirligiglaw02.TokLexes", spec := "tokLexes", unfollowed := true, recurses := true, named := ["whirligig/tok.signs"], apart := false, laid := [("whirligig/tok.signs", laid_whirligig_tok_signs)] }
def TokLexesSaid : Prop := tokLexesRow.holds Tryd.pinned (OpenSpec.ofChange tokLexesSpec)

/-- ITS FALSE NEIGHBOUR: 'it returns false'. Refute it at one input. -/
def tokLexesWrong : ChangeSpec := { name := "tokLexes", fn := fun _ => fun
  | [d] => { results := [.lit (.bool false)], args := [d] }
  | _ => none }
def TokLexesWrongFalsely : Prop := tokLexesRow.holds Tryd.pinned (OpenSpec.ofChange tokLexesWrong)

/-- 'whirligiglaw02.TokPlaces': WHATEVER THE INPUT: true; the input reads as it did. -/
def tokPlacesSpec : ChangeSpec := { name := "tokPlaces", fn := fun _ => fun
  | [d] => { results := [.lit (.bool true)], args := [d] }
  | _ => none }
def tokPlacesRow : OpenClaim := { program := "ytbngfhlciebeeaadoor", sum := "df7f23bf4fedd7838f634cbc658cc7b344c51275007750a14c812e9bac305310", func := "whirligig/whirligiglaw02.TokPlaces", spec := "tokPlaces", unfollowed := true, recurses := true, named := ["whirligig/tok.signs"], apart := false, laid := [("whirligig/tok.signs", laid_whirligig_tok_signs)] }
def TokPlacesSaid : Prop := tokPlacesRow.holds Tryd.pinned (OpenSpec.ofChange tokPlacesSpec)

/-- ITS FALSE NEIGHBOUR: 'it returns false'. Refute it at one input. -/
def tokPlacesWrong : ChangeSpec := { name := "tokPlaces", fn := fun _ => fun
  | [d] => { results := [.lit (.bool false)], args := [d] }
  | _ => none }
def TokPlacesWrongFalsely : Prop := tokPlacesRow.holds Tryd.pinned (OpenSpec.ofChange tokPlacesWrong)

/-- 'whirligiglaw02.TokIs': WHATEVER THE INPUT: true; the input reads as it did. -/
def tokIsSpec : ChangeSpec := { name := "tokIs", fn := fun _ => fun
  | [d1, d2] => { results := [.lit (.bool true)], args := [d1, d2] }
  | _ => none }
def tokIsRow : OpenClaim := { program := "ytbngfhlciebeeaadoor", sum := "df7f23bf4fedd7838f634cbc658cc7b344c51275007750a14c812e9bac305310", func := "whirligig/whirligiglaw02.TokIs", spec := "tokIs", unfollowed := true, recurses := true, named := ["whirligig/tok.signs"], apart := false, laid := [("whirligig/tok.signs", laid_whirligig_tok_signs)] }
def TokIsSaid : Prop := tokIsRow.holds Tryd.pinned (OpenSpec.ofChange tokIsSpec)

/-- ITS FALSE NEIGHBOUR: 'it returns false'. Refute it at one input. -/
def tokIsWrong : ChangeSpec := { name := "tokIs", fn := fun _ => fun
  | [d1, d2] => { results := [.lit (.bool false)], args := [d1, d2] }
  | _ => none }
def TokIsWrongFalsely : Prop := tokIsRow.holds Tryd.pinned (OpenSpec.ofChange tokIsWrong)

/-- 'whirligiglaw02.TokNames': WHATEVER THE INPUT: true; the input reads as it did. -/
def tokNamesSpec : ChangeSpec := { name := "tokNames", fn := fun _ => fun
  | [d] => { results := [.lit (.bool true)], args := [d] }
  | _ => none }
def tokNamesRow : OpenClaim := { program := "ytbngfhlciebeeaadoor", sum := "df7f23bf4fedd7838f634cbc658cc7b344c51275007750a14c812e9bac305310", func := "whirligig/whirligiglaw02.TokNames", spec := "tokNames", unfollowed := true, recurses := true, named := ["whirligig/tok.signs"], apart := false, laid := [("whirligig/tok.signs", laid_whirligig_tok_signs)] }
def TokNamesSaid : Prop := tokNamesRow.holds Tryd.pinned (OpenSpec.ofChange tokNamesSpec)

/-- ITS FALSE NEIGHBOUR: 'it returns false'. Refute it at one input. -/
def tokNamesWrong : ChangeSpec := { name := "tokNames", fn := fun _ => fun
  | [d] => { results := [.lit (.bool false)], args := [d] }
  | _ => none }
def TokNamesWrongFalsely : Prop := tokNamesRow.holds Tryd.pinned (OpenSpec.ofChange tokNamesWrong)

/-- 'whirligiglaw02.TokJoins': WHATEVER THE INPUT: true; the input reads as it did. -/
def tokJoinsSpec : ChangeSpec := { name := "tokJoins", fn := fun _ => fun
  | [d] => { results := [.lit (.bool true)], args := [d] }
  | _ => none }
def tokJoinsRow : OpenClaim := { program := "ytbngfhlciebeeaadoor", sum := "df7f23bf4fedd7838f634cbc658cc7b344c51275007750a14c812e9bac305310", func := "whirligig/whirligiglaw02.TokJoins", spec := "tokJoins", inPlace := ["internal/abi.NoEscape"], unfollowed := true, recurses := true, named := ["whirligig/tok.signs"], apart := false, laid := [("whirligig/tok.signs", laid_whirligig_tok_signs)] }
def TokJoinsSaid : Prop := tokJoinsRow.holds Tryd.pinned (OpenSpec.ofChange tokJoinsSpec)

/-- ITS FALSE NEIGHBOUR: 'it returns false'. Refute it at one input. -/
def tokJoinsWrong : ChangeSpec := { name := "tokJoins", fn := fun _ => fun
  | [d] => { results := [.lit (.bool false)], args := [d] }
  | _ => none }
def TokJoinsWrongFalsely : Prop := tokJoinsRow.holds Tryd.pinned (OpenSpec.ofChange tokJoinsWrong)

/-- 'whirligiglaw22.TreeRight': WHATEVER THE INPUT: true; the input reads as it did. -/
def treeRightSpec : ChangeSpec := { name := "treeRight", fn := fun _ => fun
  | [d] => { results := [.lit (.bool true)], args := [d] }
  | _ => none }
def treeRightRow : OpenClaim := { program := "ytbngfhlciebeeaadoor", sum := "df7f23bf4fedd7838f634cbc658cc7b344c51275007750a14c812e9bac305310", func := "whirligig/whirligiglaw22.TreeRight", spec := "treeRight", unfollowed := true, recurses := true, named := ["whirligig/tok.signs"], apart := false, laid := [("whirligig/tok.signs", laid_whirligig_tok_signs)] }
def TreeRightSaid : Prop := treeRightRow.holds Tryd.pinned (OpenSpec.ofChange treeRightSpec)

/-- ITS FALSE NEIGHBOUR: 'it returns false'. Refute it at one input. -/
def treeRightWrong : ChangeSpec := { name := "treeRight", fn := fun _ => fun
  | [d] => { results := [.lit (.bool false)], args := [d] }
  | _ => none }
def TreeRightWrongFalsely : Prop := treeRightRow.holds Tryd.pinned (OpenSpec.ofChange treeRightWrong)

/-- 'whirligiglaw22.TreeMoves': WHATEVER THE INPUT: true; the input reads as it did. -/
def treeMovesSpec : ChangeSpec := { name := "treeMoves", fn := fun _ => fun
  | [d1, d2, d3, d4] => { results := [.lit (.bool true)], args := [d1, d2, d3, d4] }
  | _ => none }
def treeMovesRow : OpenClaim := { program := "ytbngfhlciebeeaadoor", sum := "df7f23bf4fedd7838f634cbc658cc7b344c51275007750a14c812e9bac305310", func := "whirligig/whirligiglaw22.TreeMoves", spec := "treeMoves", unfollowed := true, recurses := true, named := ["whirligig/tok.signs"], apart := false, laid := [("whirligig/tok.signs", laid_whirligig_tok_signs)] }
def TreeMovesSaid : Prop := treeMovesRow.holds Tryd.pinned (OpenSpec.ofChange treeMovesSpec)

/-- ITS FALSE NEIGHBOUR: 'it returns false'. Refute it at one input. -/
def treeMovesWrong : ChangeSpec := { name := "treeMoves", fn := fun _ => fun
  | [d1, d2, d3, d4] => { results := [.lit (.bool false)], args := [d1, d2, d3, d4] }
  | _ => none }
def TreeMovesWrongFalsely : Prop := treeMovesRow.holds Tryd.pinned (OpenSpec.ofChange treeMovesWrong)

/-- 'whirligiglaw22.TreePlays': WHATEVER THE INPUT: true; the input reads as it did. -/
def treePlaysSpec : ChangeSpec := { name := "treePlays", fn := fun _ => fun
  | [d] => { results := [.lit (.bool true)], args := [d] }
  | _ => none }
def treePlaysRow : OpenClaim := { program := "ytbngfhlciebeeaadoor", sum := "df7f23bf4fedd7838f634cbc658cc7b344c51275007750a14c812e9bac305310", func := "whirligig/whirligiglaw22.TreePlays", spec := "treePlays", unfollowed := true, recurses := true, named := ["whirligig/tok.signs"], apart := false, laid := [("whirligig/tok.signs", laid_whirligig_tok_signs)] }
def TreePlaysSaid : Prop := treePlaysRow.holds Tryd.pinned (OpenSpec.ofChange treePlaysSpec)

/-- ITS FALSE NEIGHBOUR: 'it returns false'. Refute it at one input. -/
def treePlaysWrong : ChangeSpec := { name := "treePlays", fn := fun _ => fun
  | [d] => { results := [.lit (.bool false)], args := [d] }
  | _ => none }
def TreePlaysWrongFalsely : Prop := treePlaysRow.holds Tryd.pinned (OpenSpec.ofChange treePlaysWrong)

/-- 'whirligiglaw22.TreeEnds': WHATEVER THE INPUT: true; the input reads as it did. -/
def treeEndsSpec : ChangeSpec := { name := "treeEnds", fn := fun _ => fun
  | [d1, d2, d3, d4] => { results := [.lit (.bool true)], args := [d1, d2, d3, d4] }
  | _ => none }
def treeEndsRow : OpenClaim := { program := "ytbngfhlciebeeaadoor", sum := "df7f23bf4fedd7838f634cbc658cc7b344c51275007750a14c812e9bac305310", func := "whirligig/whirligiglaw22.TreeEnds", spec := "treeEnds", unfollowed := true, recurses := true, named := ["whirligig/tok.signs"], apart := false, laid := [("whirligig/tok.signs", laid_whirligig_tok_signs)] }
def TreeEndsSaid : Prop := treeEndsRow.holds Tryd.pinned (OpenSpec.ofChange treeEndsSpec)

/-- ITS FALSE NEIGHBOUR: 'it returns false'. Refute it at one input. -/
def treeEndsWrong : ChangeSpec := { name := "treeEnds", fn := fun _ => fun
  | [d1, d2, d3, d4] => { results := [.lit (.bool false)], args := [d1, d2, d3, d4] }
  | _ => none }
def TreeEndsWrongFalsely : Prop := treeEndsRow.holds Tryd.pinned (OpenSpec.ofChange treeEndsWrong)

/-- 'whirligiglaw04.KindMore': WHATEVER THE INPUT: true; the input reads as it did. -/
def kindMoreSpec : ChangeSpec := { name := "kindMore", fn := fun _ => fun
  | [d1, d2, d3] => { results := [.lit (.bool true)], args := [d1, d2, d3] }
  | _ => none }
def kindMoreRow : OpenClaim := { program := "ytbngfhlciebeeaadoor", sum := "df7f23bf4fedd7838f634cbc658cc7b344c51275007750a14c812e9bac305310", func := "whirligig/whirligiglaw04.KindMore", spec := "kindMore", unfollowed := true, recurses := true, named := ["whirligig/tok.signs"], apart := false, laid := [("whirligig/tok.signs", laid_whirligig_tok_signs)] }
def KindMoreSaid : Prop := kindMoreRow.holds Tryd.pinned (OpenSpec.ofChange kindMoreSpec)

/-- ITS FALSE NEIGHBOUR: 'it returns false'. Refute it at one input. -/
def kindMoreWrong : ChangeSpec := { name := "kindMore", fn := fun _ => fun
  | [d1, d2, d3] => { results := [.lit (.bool false)], args := [d1, d2, d3] }
  | _ => none }
def KindMoreWrongFalsely : Prop := kindMoreRow.holds Tryd.pinned (OpenSpec.ofChange kindMoreWrong)

/-- 'whirligiglaw04.KindOf': WHATEVER THE INPUT: true; the input reads as it did. -/
def kindOfSpec : ChangeSpec := { name := "kindOf", fn := fun _ => fun
  | [d1, d2, d3] => { results := [.lit (.bool true)], args := [d1, d2, d3] }
  | _ => none }
def kindOfRow : OpenClaim := { program := "ytbngfhlciebeeaadoor", sum := "df7f23bf4fedd7838f634cbc658cc7b344c51275007750a14c812e9bac305310", func := "whirligig/whirligiglaw04.KindOf", spec := "kindOf", unfollowed := true, recurses := true, named := ["whirligig/tok.signs"], apart := false, laid := [("whirligig/tok.signs", laid_whirligig_tok_signs)] }
def KindOfSaid : Prop := kindOfRow.holds Tryd.pinned (OpenSpec.ofChange kindOfSpec)

/-- ITS FALSE NEIGHBOUR: 'it returns false'. Refute it at one input. -/
def kindOfWrong : ChangeSpec := { name := "kindOf", fn := fun _ => fun
  | [d1, d2, d3] => { results := [.lit (.bool false)], args := [d1, d2, d3] }
  | _ => none }
def KindOfWrongFalsely : Prop := kindOfRow.holds Tryd.pinned (OpenSpec.ofChange kindOfWrong)

/-- 'whirligiglaw04.KindForms': WHATEVER THE INPUT: true; the input reads as it did. -/
def kindFormsSpec : ChangeSpec := { name := "kindForms", fn := fun _ => fun
  | [d1, d2] => { results := [.lit (.bool true)], args := [d1, d2] }
  | _ => none }
def kindFormsRow : OpenClaim := { program := "ytbngfhlciebeeaadoor", sum := "df7f23bf4fedd7838f634cbc658cc7b344c51275007750a14c812e9bac305310", func := "whirligig/whirligiglaw04.KindForms", spec := "kindForms", unfollowed := true, recurses := true, named := ["whirligig/tok.signs"], apart := false, laid := [("whirligig/tok.signs", laid_whirligig_tok_signs)] }
def KindFormsSaid : Prop := kindFormsRow.holds Tryd.pinned (OpenSpec.ofChange kindFormsSpec)

/-- ITS FALSE NEIGHBOUR: 'it returns false'. Refute it at one input. -/
def kindFormsWrong : ChangeSpec := { name := "kindForms", fn := fun _ => fun
  | [d1, d2] => { results := [.lit (.bool false)], args := [d1, d2] }
  | _ => none }
def KindFormsWrongFalsely : Prop := kindFormsRow.holds Tryd.pinned (OpenSpec.ofChange kindFormsWrong)

/-- 'whirligiglaw05.EvalComes': WHATEVER THE INPUT: true; the input reads as it did. -/
def evalComesSpec : ChangeSpec := { name := "evalComes", fn := fun _ => fun
  | [d1, d2] => { results := [.lit (.bool true)], args := [d1, d2] }
  | _ => none }
def evalComesRow : OpenClaim := { program := "ytbngfhlciebeeaadoor", sum := "df7f23bf4fedd7838f634cbc658cc7b344c51275007750a14c812e9bac305310", func := "whirligig/whirligiglaw05.EvalComes", spec := "evalComes", unfollowed := true, recurses := true, named := ["whirligig/tok.signs"], apart := false, laid := [("whirligig/tok.signs", laid_whirligig_tok_signs)] }
def EvalComesSaid : Prop := evalComesRow.holds Tryd.pinned (OpenSpec.ofChange evalComesSpec)

/-- ITS FALSE NEIGHBOUR: 'it returns false'. Refute it at one input. -/
def evalComesWrong : ChangeSpec := { name := "evalComes", fn := fun _ => fun
  | [d1, d2] => { results := [.lit (.bool false)], args := [d1, d2] }
  | _ => none }
def EvalComesWrongFalsely : Prop := evalComesRow.holds Tryd.pinned (OpenSpec.ofChange evalComesWrong)

/-- 'whirligiglaw05.EvalForms': WHATEVER THE INPUT: true; the input reads as it did. -/
def evalFormsSpec : ChangeSpec := { name := "evalForms", fn := fun _ => fun
  | [d1, d2] => { results := [.lit (.bool true)], args := [d1, d2] }
  | _ => none }
def evalFormsRow : OpenClaim := { program := "ytbngfhlciebeeaadoor", sum := "df7f23bf4fedd7838f634cbc658cc7b344c51275007750a14c812e9bac305310", func := "whirligig/whirligiglaw05.EvalForms", spec := "evalForms", unfollowed := true, recurses := true, named := ["whirligig/tok.signs"], apart := false, laid := [("whirligig/tok.signs", laid_whirligig_tok_signs)] }
def EvalFormsSaid : Prop := evalFormsRow.holds Tryd.pinned (OpenSpec.ofChange evalFormsSpec)

/-- ITS FALSE NEIGHBOUR: 'it returns false'. Refute it at one input. -/
def evalFormsWrong : ChangeSpec := { name := "evalForms", fn := fun _ => fun
  | [d1, d2] => { results := [.lit (.bool false)], args := [d1, d2] }
  | _ => none }
def EvalFormsWrongFalsely : Prop := evalFormsRow.holds Tryd.pinned (OpenSpec.ofChange evalFormsWrong)

/-- 'whirligiglaw05.EvalShort': WHATEVER THE INPUT: true; the input reads as it did. -/
def evalShortSpec : ChangeSpec := { name := "evalShort", fn := fun _ => fun
  | [d1, d2, d3] => { results := [.lit (.bool true)], args := [d1, d2, d3] }
  | _ => none }
def evalShortRow : OpenClaim := { program := "ytbngfhlciebeeaadoor", sum := "df7f23bf4fedd7838f634cbc658cc7b344c51275007750a14c812e9bac305310", func := "whirligig/whirligiglaw05.EvalShort", spec := "evalShort", unfollowed := true, recurses := true, named := ["whirligig/tok.signs"], apart := false, laid := [("whirligig/tok.signs", laid_whirligig_tok_signs)] }
def EvalShortSaid : Prop := evalShortRow.holds Tryd.pinned (OpenSpec.ofChange evalShortSpec)

/-- ITS FALSE NEIGHBOUR: 'it returns false'. Refute it at one input. -/
def evalShortWrong : ChangeSpec := { name := "evalShort", fn := fun _ => fun
  | [d1, d2, d3] => { results := [.lit (.bool false)], args := [d1, d2, d3] }
  | _ => none }
def EvalShortWrongFalsely : Prop := evalShortRow.holds Tryd.pinned (OpenSpec.ofChange evalShortWrong)

/-- 'whirligiglaw05.EvalTyped': WHATEVER THE INPUT: true; the input reads as it did. -/
def evalTypedSpec : ChangeSpec := { name := "evalTyped", fn := fun _ => fun
  | [d1, d2, d3] => { results := [.lit (.bool true)], args := [d1, d2, d3] }
  | _ => none }
def evalTypedRow : OpenClaim := { program := "ytbngfhlciebeeaadoor", sum := "df7f23bf4fedd7838f634cbc658cc7b344c51275007750a14c812e9bac305310", func := "whirligig/whirligiglaw05.EvalTyped", spec := "evalTyped", unfollowed := true, recurses := true, named := ["whirligig/tok.signs"], apart := false, laid := [("whirligig/tok.signs", laid_whirligig_tok_signs)] }
def EvalTypedSaid : Prop := evalTypedRow.holds Tryd.pinned (OpenSpec.ofChange evalTypedSpec)

/-- ITS FALSE NEIGHBOUR: 'it returns false'. Refute it at one input. -/
def evalTypedWrong : ChangeSpec := { name := "evalTyped", fn := fun _ => fun
  | [d1, d2, d3] => { results := [.lit (.bool false)], args := [d1, d2, d3] }
  | _ => none }
def EvalTypedWrongFalsely : Prop := evalTypedRow.holds Tryd.pinned (OpenSpec.ofChange evalTypedWrong)

/- THE SECOND FORM. 'bulk': how many values and letters a reading holds, each counted each time it is reached (what is shared counts as often as it is met; a slice's spare places count too). A statement '..UptoSaid' is the law's where the arguments, and the package variables that the reading takes, are together of bulk at most 1048576: NARROWER than '..Said'. Prove '..Said' where nothing that the law and all that it calls make is longer than what came in: it says more and counts as full. Else prove '..UptoSaid'. A law counts once. -/
mutual
def uptoBulk {H : Type} : DataW H → Nat
  | .lit (.string bytes) => bytes.length + 1
  | .lit _ => 1
  | .nil => 1
  | .ptr d => uptoBulk d + 1
  | .slice elems spare => uptoBulkAll elems + uptoBulkAll spare + 1
  | .agg parts => uptoBulkAll parts + 1
  | .iface _ d => uptoBulk d + 1
  | .map entries => uptoBulkEntries entries + 1
  | .held _ => 1
def uptoBulkAll {H : Type} : List (DataW H) → Nat
  | [] => 0
  | d :: r => uptoBulk d + uptoBulkAll r
def uptoBulkEntries {H : Type} : List (Lit × DataW H) → Nat
  | [] => 0
  | x :: r => uptoBulkEntry x + uptoBulkEntries r
def uptoBulkEntry {H : Type} : Lit × DataW H → Nat
  | (.string bytes, d) => bytes.length + uptoBulk d + 1
  | (_, d) => uptoBulk d + 1
 end
def uptoSmall : (H : Type) → List (DataW H) → Bool := fun _ ds => decide (uptoBulkAll ds ≤ 1048576)
def OpenSpec.upto (s : _root_.Go.ChangeSpec) : _root_.Go.OpenSpec := { _root_.Go.OpenSpec.ofChange s with cond := some uptoSmall }

/-- 'whirligiglaw02.TokLexes', WHERE WHAT IT READS IS OF BULK AT MOST 1048576: true; the input reads as it did. -/
def tokLexesUptoRow : OpenClaim := { program := "ytbngfhlciebeeaadoor", sum := "df7f23bf4fedd7838f634cbc658cc7b344c51275007750a14c812e9bac305310", func := "whirligig/whirligiglaw02.TokLexes", spec := "tokLexes", unfollowed := true, recurses := true, named := ["whirligig/tok.signs"], apart := false, laid := [("whirligig/tok.signs", laid_whirligig_tok_signs)], narrowed := true }
def TokLexesUptoSaid : Prop := tokLexesUptoRow.holds Tryd.pinned (OpenSpec.upto tokLexesSpec)

/-- 'whirligiglaw02.TokPlaces', WHERE WHAT IT READS IS OF BULK AT MOST 1048576: true; the input reads as it did. -/
def tokPlacesUptoRow : OpenClaim := { program := "ytbngfhlciebeeaadoor", sum := "df7f23bf4fedd7838f634cbc658cc7b344c51275007750a14c812e9bac305310", func := "whirligig/whirligiglaw02.TokPlaces", spec := "tokPlaces", unfollowed := true, recurses := true, named := ["whirligig/tok.signs"], apart := false, laid := [("whirligig/tok.signs", laid_whirligig_tok_signs)], narrowed := true }
def TokPlacesUptoSaid : Prop := tokPlacesUptoRow.holds Tryd.pinned (OpenSpec.upto tokPlacesSpec)

/-- 'whirligiglaw02.TokIs', WHERE WHAT IT READS IS OF BULK AT MOST 1048576: true; the input reads as it did. -/
def tokIsUptoRow : OpenClaim := { program := "ytbngfhlciebeeaadoor", sum := "df7f23bf4fedd7838f634cbc658cc7b344c51275007750a14c812e9bac305310", func := "whirligig/whirligiglaw02.TokIs", spec := "tokIs", unfollowed := true, recurses := true, named := ["whirligig/tok.signs"], apart := false, laid := [("whirligig/tok.signs", laid_whirligig_tok_signs)], narrowed := true }
def TokIsUptoSaid : Prop := tokIsUptoRow.holds Tryd.pinned (OpenSpec.upto tokIsSpec)

/-- 'whirligiglaw02.TokNames', WHERE WHAT IT READS IS OF BULK AT MOST 1048576: true; the input reads as it did. -/
def tokNamesUptoRow : OpenClaim := { program := "ytbngfhlciebeeaadoor", sum := "df7f23bf4fedd7838f634cbc658cc7b344c51275007750a14c812e9bac305310", func := "whirligig/whirligiglaw02.TokNames", spec := "tokNames", unfollowed := true, recurses := true, named := ["whirligig/tok.signs"], apart := false, laid := [("whirligig/tok.signs", laid_whirligig_tok_signs)], narrowed := true }
def TokNamesUptoSaid : Prop := tokNamesUptoRow.holds Tryd.pinned (OpenSpec.upto tokNamesSpec)

/-- 'whirligiglaw02.TokJoins', WHERE WHAT IT READS IS OF BULK AT MOST 1048576: true; the input reads as it did. -/
def tokJoinsUptoRow : OpenClaim := { program := "ytbngfhlciebeeaadoor", sum := "df7f23bf4fedd7838f634cbc658cc7b344c51275007750a14c812e9bac305310", func := "whirligig/whirligiglaw02.TokJoins", spec := "tokJoins", inPlace := ["internal/abi.NoEscape"], unfollowed := true, recurses := true, named := ["whirligig/tok.signs"], apart := false, laid := [("whirligig/tok.signs", laid_whirligig_tok_signs)], narrowed := true }
def TokJoinsUptoSaid : Prop := tokJoinsUptoRow.holds Tryd.pinned (OpenSpec.upto tokJoinsSpec)

/-- 'whirligiglaw22.TreeRight', WHERE WHAT IT READS IS OF BULK AT MOST 1048576: true; the input reads as it did. -/
def treeRightUptoRow : OpenClaim := { program := "ytbngfhlciebeeaadoor", sum := "df7f23bf4fedd7838f634cbc658cc7b344c51275007750a14c812e9bac305310", func := "whirligig/whirligiglaw22.TreeRight", spec := "treeRight", unfollowed := true, recurses := true, named := ["whirligig/tok.signs"], apart := false, laid := [("whirligig/tok.signs", laid_whirligig_tok_signs)], narrowed := true }
def TreeRightUptoSaid : Prop := treeRightUptoRow.holds Tryd.pinned (OpenSpec.upto treeRightSpec)

/-- 'whirligiglaw22.TreeMoves', WHERE WHAT IT READS IS OF BULK AT MOST 1048576: true; the input reads as it did. -/
def treeMovesUptoRow : OpenClaim := { program := "ytbngfhlciebeeaadoor", sum := "df7f23bf4fedd7838f634cbc658cc7b344c51275007750a14c812e9bac305310", func := "whirligig/whirligiglaw22.TreeMoves", spec := "treeMoves", unfollowed := true, recurses := true, named := ["whirligig/tok.signs"], apart := false, laid := [("whirligig/tok.signs", laid_whirligig_tok_signs)], narrowed := true }
def TreeMovesUptoSaid : Prop := treeMovesUptoRow.holds Tryd.pinned (OpenSpec.upto treeMovesSpec)

/-- 'whirligiglaw22.TreePlays', WHERE WHAT IT READS IS OF BULK AT MOST 1048576: true; the input reads as it did. -/
def treePlaysUptoRow : OpenClaim := { program := "ytbngfhlciebeeaadoor", sum := "df7f23bf4fedd7838f634cbc658cc7b344c51275007750a14c812e9bac305310", func := "whirligig/whirligiglaw22.TreePlays", spec := "treePlays", unfollowed := true, recurses := true, named := ["whirligig/tok.signs"], apart := false, laid := [("whirligig/tok.signs", laid_whirligig_tok_signs)], narrowed := true }
def TreePlaysUptoSaid : Prop := treePlaysUptoRow.holds Tryd.pinned (OpenSpec.upto treePlaysSpec)

/-- 'whirligiglaw22.TreeEnds', WHERE WHAT IT READS IS OF BULK AT MOST 1048576: true; the input reads as it did. -/
def treeEndsUptoRow : OpenClaim := { program := "ytbngfhlciebeeaadoor", sum := "df7f23bf4fedd7838f634cbc658cc7b344c51275007750a14c812e9bac305310", func := "whirligig/whirligiglaw22.TreeEnds", spec := "treeEnds", unfollowed := true, recurses := true, named := ["whirligig/tok.signs"], apart := false, laid := [("whirligig/tok.signs", laid_whirligig_tok_signs)], narrowed := true }
def TreeEndsUptoSaid : Prop := treeEndsUptoRow.holds Tryd.pinned (OpenSpec.upto treeEndsSpec)

/-- 'whirligiglaw04.KindMore', WHERE WHAT IT READS IS OF BULK AT MOST 1048576: true; the input reads as it did. -/
def kindMoreUptoRow : OpenClaim := { program := "ytbngfhlciebeeaadoor", sum := "df7f23bf4fedd7838f634cbc658cc7b344c51275007750a14c812e9bac305310", func := "whirligig/whirligiglaw04.KindMore", spec := "kindMore", unfollowed := true, recurses := true, named := ["whirligig/tok.signs"], apart := false, laid := [("whirligig/tok.signs", laid_whirligig_tok_signs)], narrowed := true }
def KindMoreUptoSaid : Prop := kindMoreUptoRow.holds Tryd.pinned (OpenSpec.upto kindMoreSpec)

/-- 'whirligiglaw04.KindOf', WHERE WHAT IT READS IS OF BULK AT MOST 1048576: true; the input reads as it did. -/
def kindOfUptoRow : OpenClaim := { program := "ytbngfhlciebeeaadoor", sum := "df7f23bf4fedd7838f634cbc658cc7b344c51275007750a14c812e9bac305310", func := "whirligig/whirligiglaw04.KindOf", spec := "kindOf", unfollowed := true, recurses := true, named := ["whirligig/tok.signs"], apart := false, laid := [("whirligig/tok.signs", laid_whirligig_tok_signs)], narrowed := true }
def KindOfUptoSaid : Prop := kindOfUptoRow.holds Tryd.pinned (OpenSpec.upto kindOfSpec)

/-- 'whirligiglaw04.KindForms', WHERE WHAT IT READS IS OF BULK AT MOST 1048576: true; the input reads as it did. -/
def kindFormsUptoRow : OpenClaim := { program := "ytbngfhlciebeeaadoor", sum := "df7f23bf4fedd7838f634cbc658cc7b344c51275007750a14c812e9bac305310", func := "whirligig/whirligiglaw04.KindForms", spec := "kindForms", unfollowed := true, recurses := true, named := ["whirligig/tok.signs"], apart := false, laid := [("whirligig/tok.signs", laid_whirligig_tok_signs)], narrowed := true }
def KindFormsUptoSaid : Prop := kindFormsUptoRow.holds Tryd.pinned (OpenSpec.upto kindFormsSpec)

/-- 'whirligiglaw05.EvalComes', WHERE WHAT IT READS IS OF BULK AT MOST 1048576: true; the input reads as it did. -/
def evalComesUptoRow : OpenClaim := { program := "ytbngfhlciebeeaadoor", sum := "df7f23bf4fedd7838f634cbc658cc7b344c51275007750a14c812e9bac305310", func := "whirligig/whirligiglaw05.EvalComes", spec := "evalComes", unfollowed := true, recurses := true, named := ["whirligig/tok.signs"], apart := false, laid := [("whirligig/tok.signs", laid_whirligig_tok_signs)], narrowed := true }
def EvalComesUptoSaid : Prop := evalComesUptoRow.holds Tryd.pinned (OpenSpec.upto evalComesSpec)

/-- 'whirligiglaw05.EvalForms', WHERE WHAT IT READS IS OF BULK AT MOST 1048576: true; the input reads as it did. -/
def evalFormsUptoRow : OpenClaim := { program := "ytbngfhlciebeeaadoor", sum := "df7f23bf4fedd7838f634cbc658cc7b344c51275007750a14c812e9bac305310", func := "whirligig/whirligiglaw05.EvalForms", spec := "evalForms", unfollowed := true, recurses := true, named := ["whirligig/tok.signs"], apart := false, laid := [("whirligig/tok.signs", laid_whirligig_tok_signs)], narrowed := true }
def EvalFormsUptoSaid : Prop := evalFormsUptoRow.holds Tryd.pinned (OpenSpec.upto evalFormsSpec)

/-- 'whirligiglaw05.EvalShort', WHERE WHAT IT READS IS OF BULK AT MOST 1048576: true; the input reads as it did. -/
def evalShortUptoRow : OpenClaim := { program := "ytbngfhlciebeeaadoor", sum := "df7f23bf4fedd7838f634cbc658cc7b344c51275007750a14c812e9bac305310", func := "whirligig/whirligiglaw05.EvalShort", spec := "evalShort", unfollowed := true, recurses := true, named := ["whirligig/tok.signs"], apart := false, laid := [("whirligig/tok.signs", laid_whirligig_tok_signs)], narrowed := true }
def EvalShortUptoSaid : Prop := evalShortUptoRow.holds Tryd.pinned (OpenSpec.upto evalShortSpec)

/-- 'whirligiglaw05.EvalTyped', WHERE WHAT IT READS IS OF BULK AT MOST 1048576: true; the input reads as it did. -/
def evalTypedUptoRow : OpenClaim := { program := "ytbngfhlciebeeaadoor", sum := "df7f23bf4fedd7838f634cbc658cc7b344c51275007750a14c812e9bac305310", func := "whirligig/whirligiglaw05.EvalTyped", spec := "evalTyped", unfollowed := true, recurses := true, named := ["whirligig/tok.signs"], apart := false, laid := [("whirligig/tok.signs", laid_whirligig_tok_signs)], narrowed := true }
def EvalTypedUptoSaid : Prop := evalTypedUptoRow.holds Tryd.pinned (OpenSpec.upto evalTypedSpec)

end Rows
end Go.Proofs.YtbngfhlciebeeaaDoor
