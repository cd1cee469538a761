/- Printed and hand-written steps towards the row (TokJoins), those that it reaches. -/
import Derived.Test.YtbngfhlciebeeaaDoorTokJoinsLx0
import Derived.Test.YtbngfhlciebeeaaDoorTokJoinsLxeq31
import Derived.Test.YtbngfhlciebeeaaDoorTokJoinsLxf19
import Derived.Test.YtbngfhlciebeeaaDoorTokJoinsLxf112
import Derived.Test.YtbngfhlciebeeaaDoorTokJoinsGLex
namespace Go.Proofs.YtbngfhlciebeeaaDoor.L
open Go.RowKit Go.Proofs.YtbngfhlciebeeaaDoorW.PrintWords Go.Proofs.YtbngfhlciebeeaaDoorW.PrintLast Go.Proofs.YtbngfhlciebeeaaDoorW.PrintMore
attribute [local go_sem] max2_int min2_int max_two min_two max_three min_three max_four min_four   -- for this text's walks alone
set_option linter.unusedVariables false
set_option linter.unusedSimpArgs false
attribute [local go_sem high] eqA31
mutual
def whirligiglaw02_TokLexes.j0 : Nat → List (S32) → List (S31) → Bool → Option (Bool)
  | 0, _, _, _ => none
  | k + 1, x3, x6, x41 => if x41 = true then (some false) else (whirligiglaw02_TokLexes.l0 k x3 x6 (x3.length : Int) 0)
def whirligiglaw02_TokLexes.l0 : Nat → List (S32) → List (S31) → Int → Int → Option (Bool)
  | 0, _, _, _, _ => none
  | k + 1, x3, x6, x43, x44 => if x44 < x43 then (if 0 ≤ x44 then (if x44 < (x3.length : Int) then (if x44 < (x6.length : Int) then (if (!(((rd_T32 x3 x44).f0) == ((rd_T31 x6 x44).f0)) || (!((((rd_T32 x3 x44).f1).toList) == (((rd_T31 x6 x44).f1).toList)) || (!(((rd_T32 x3 x44).f2) == ((rd_T31 x6 x44).f2)) || (!(((rd_T32 x3 x44).f3) == ((rd_T31 x6 x44).f3)))))) = true then (some false) else (whirligiglaw02_TokLexes.l0 k x3 x6 x43 (wrap64 (x44 + 1)))) else (none)) else (none)) else (none)) else (some true)
end
def whirligiglaw02_TokLexes.f (k : Nat) (a0 : ByteArray) : Option (Bool) := (whirligiglaw02_anchor.f k).bind fun t222 => (if t222 = true then (if (a0.size : Int) > 1000 then (some true) else ((tok_Lex.f k a0).bind fun bt223 => ((whirligigref02_Lex.f k a0).bind fun bt228 => (if bt223.2.1 = bt228.2.1 then (if bt223.2.2 = bt228.2.2 then (whirligiglaw02_TokLexes.j0 k bt223.1 bt228.1 ((bt223.1.length : Int) != (bt228.1.length : Int))) else (whirligiglaw02_TokLexes.j0 k bt223.1 bt228.1 true)) else (whirligiglaw02_TokLexes.j0 k bt223.1 bt228.1 true))))) else (some false))
theorem whirligiglaw02_TokLexes.mono_l : ∀ k, (∀ y0 y1 y2, LeO (whirligiglaw02_TokLexes.j0 k y0 y1 y2) (whirligiglaw02_TokLexes.j0 (k + 1) y0 y1 y2)) ∧ (∀ y0 y1 y2 y3, LeO (whirligiglaw02_TokLexes.l0 k y0 y1 y2 y3) (whirligiglaw02_TokLexes.l0 (k + 1) y0 y1 y2 y3))
  | 0 => ⟨fun _ _ _ r h => by simp [whirligiglaw02_TokLexes.j0] at h, fun _ _ _ _ r h => by simp [whirligiglaw02_TokLexes.l0] at h⟩
  | k + 1 => by
    obtain ⟨ih0, ih1⟩ := whirligiglaw02_TokLexes.mono_l k
    refine ⟨?_, ?_⟩
    · intro y0 y1 y2
      unfold whirligiglaw02_TokLexes.j0
      repeat' first
      | (with_reducible exact ih0 _ _ _)
      | (with_reducible exact ih1 _ _ _ _)
      | (with_reducible exact tok_Lex.mono _ _)
      | (with_reducible exact whirligiglaw02_anchor.mono _)
      | (with_reducible exact whirligigref02_Lex.mono _ _)
      | (with_reducible exact LeO.refl _)
      | (with_reducible exact LeO.none _)
      | (with_reducible refine LeO.ite ?_ ?_)
      | (with_reducible refine LeO.bind ?_ (fun _ => ?_))
      | exact ih0 _ _ _
      | exact ih1 _ _ _ _
      | exact tok_Lex.mono _ _
      | exact whirligiglaw02_anchor.mono _
      | exact whirligigref02_Lex.mono _ _
      | exact LeO.none _
      | refine LeO.ite ?_ ?_
      | refine LeO.bind ?_ (fun _ => ?_)
    · intro y0 y1 y2 y3
      unfold whirligiglaw02_TokLexes.l0
      repeat' first
      | (with_reducible exact ih0 _ _ _)
      | (with_reducible exact ih1 _ _ _ _)
      | (with_reducible exact tok_Lex.mono _ _)
      | (with_reducible exact whirligiglaw02_anchor.mono _)
      | (with_reducible exact whirligigref02_Lex.mono _ _)
      | (with_reducible exact LeO.refl _)
      | (with_reducible exact LeO.none _)
      | (with_reducible refine LeO.ite ?_ ?_)
      | (with_reducible refine LeO.bind ?_ (fun _ => ?_))
      | exact ih0 _ _ _
      | exact ih1 _ _ _ _
      | exact tok_Lex.mono _ _
      | exact whirligiglaw02_anchor.mono _
      | exact whirligigref02_Lex.mono _ _
      | exact LeO.none _
      | refine LeO.ite ?_ ?_
      | refine LeO.bind ?_ (fun _ => ?_)
theorem whirligiglaw02_TokLexes.mono : ∀ a0 k, LeO (whirligiglaw02_TokLexes.f k a0) (whirligiglaw02_TokLexes.f (k + 1) a0) := by
  intro a0 k
  obtain ⟨ih0, ih1⟩ := whirligiglaw02_TokLexes.mono_l k
  unfold whirligiglaw02_TokLexes.f
  repeat' first
      | (with_reducible exact ih0 _ _ _)
      | (with_reducible exact ih1 _ _ _ _)
      | (with_reducible exact tok_Lex.mono _ _)
      | (with_reducible exact whirligiglaw02_anchor.mono _)
      | (with_reducible exact whirligigref02_Lex.mono _ _)
      | (with_reducible exact LeO.refl _)
      | (with_reducible exact LeO.none _)
      | (with_reducible refine LeO.ite ?_ ?_)
      | (with_reducible refine LeO.bind ?_ (fun _ => ?_))
      | exact ih0 _ _ _
      | exact ih1 _ _ _ _
      | exact tok_Lex.mono _ _
      | exact whirligiglaw02_anchor.mono _
      | exact whirligigref02_Lex.mono _ _
      | exact LeO.none _
      | refine LeO.ite ?_ ?_
      | refine LeO.bind ?_ (fun _ => ?_)
def whirligiglaw02_blank.l0 : Nat → ByteArray → Int → Int → Option (Bool)
  | 0, _, _, _ => none
  | k + 1, x0, x5, x6 => if x6 < x5 then (if 0 ≤ x6 then (if x6 < (x0.size : Int) then (if (bt x0 x6) = 32 then (whirligiglaw02_blank.l0 k x0 x5 (wrap64 (x6 + 1))) else (some false)) else (none)) else (none)) else (some true)
def whirligiglaw02_blank.f (k : Nat) (a0 : ByteArray) : Option (Bool) := whirligiglaw02_blank.l0 k a0 (a0.size : Int) 0
theorem whirligiglaw02_blank.mono_l : ∀ k, (∀ y0 y1 y2, LeO (whirligiglaw02_blank.l0 k y0 y1 y2) (whirligiglaw02_blank.l0 (k + 1) y0 y1 y2))
  | 0 => fun _ _ _ r h => by simp [whirligiglaw02_blank.l0] at h
  | k + 1 => by
    have ih0 := whirligiglaw02_blank.mono_l k
    · intro y0 y1 y2
      unfold whirligiglaw02_blank.l0
      repeat' first
      | (with_reducible exact ih0 _ _ _)
      | (with_reducible exact LeO.refl _)
      | (with_reducible exact LeO.none _)
      | (with_reducible refine LeO.ite ?_ ?_)
      | (with_reducible refine LeO.bind ?_ (fun _ => ?_))
      | exact ih0 _ _ _
      | exact LeO.none _
      | refine LeO.ite ?_ ?_
      | refine LeO.bind ?_ (fun _ => ?_)
theorem whirligiglaw02_blank.mono : ∀ a0 k, LeO (whirligiglaw02_blank.f k a0) (whirligiglaw02_blank.f (k + 1) a0) := by
  intro a0 k
  have ih0 := whirligiglaw02_blank.mono_l k
  unfold whirligiglaw02_blank.f
  repeat' first
      | (with_reducible exact ih0 _ _ _)
      | (with_reducible exact LeO.refl _)
      | (with_reducible exact LeO.none _)
      | (with_reducible refine LeO.ite ?_ ?_)
      | (with_reducible refine LeO.bind ?_ (fun _ => ?_))
      | exact ih0 _ _ _
      | exact LeO.none _
      | refine LeO.ite ?_ ?_
      | refine LeO.bind ?_ (fun _ => ?_)
end Go.Proofs.YtbngfhlciebeeaaDoor.L
