/- Printed and hand-written steps towards the row (TreeRight), those that it reaches. -/
import Derived.Test.YtbngfhlciebeeaaDoorTreeRightLx0
import Derived.Test.YtbngfhlciebeeaaDoorTreeRightG7
import Derived.Test.YtbngfhlciebeeaaDoorTreeRightLxf19
import Derived.Test.YtbngfhlciebeeaaDoorTreeRightG20
import Derived.Test.YtbngfhlciebeeaaDoorTreeRightG13
namespace Go.Proofs.YtbngfhlciebeeaaDoor.L
open Go.RowKit Go.Proofs.YtbngfhlciebeeaaDoorW.PrintWords Go.Proofs.YtbngfhlciebeeaaDoorW.PrintLast Go.Proofs.YtbngfhlciebeeaaDoorW.PrintMore
attribute [local go_sem] max2_int min2_int max_two min_two max_three min_three max_four min_four   -- for this text's walks alone
set_option linter.unusedVariables false
set_option linter.unusedSimpArgs false
def whirligiglaw02_TokPlaces.l0 : Nat → ByteArray → Int → List (S32) → Int → Int → Option (Bool)
 | 0, _, _, _, _, _ => none
 | k + 1, x0, x6, x26, x27, x28 => if x28 < x27 then (if 0 ≤ x28 then (if x28 < (x26.length : Int) then (if ((rd_T32 x26 x28).f0) = 4 then (if 1 + ((rd_T32 x26 x28).f1).size ≤ 9223372036854775807 then (if (1 + ((rd_T32 x26 x28).f1).size) + 1 ≤ 9223372036854775807 then (if ((rd_T32 x26 x28).f3) < x6 then (some false) else (if ((rd_T32 x26 x28).f3) > (wrap64 ((x0.size : Int) - (1 + (((rd_T32 x26 x28).f1).size : Int) + 1))) then (some false) else (if 0 ≤ ((rd_T32 x26 x28).f3) then (if ((rd_T32 x26 x28).f3) ≤ (wrap64 (((rd_T32 x26 x28).f3) + (1 + (((rd_T32 x26 x28).f1).size : Int) + 1))) then (if (wrap64 (((rd_T32 x26 x28).f3) + (1 + (((rd_T32 x26 x28).f1).size : Int) + 1))) ≤ (x0.size : Int) then (if (x0.extract (((rd_T32 x26 x28).f3) : Int).toNat ((wrap64 (((rd_T32 x26 x28).f3) + (1 + (((rd_T32 x26 x28).f1).size : Int) + 1))) : Int).toNat).toList = (((⟨#[39]⟩ : ByteArray) ++ ((rd_T32 x26 x28).f1)) ++ (⟨#[39]⟩ : ByteArray)).toList then (if 0 ≤ x6 then (if x6 ≤ ((rd_T32 x26 x28).f3) then (if ((rd_T32 x26 x28).f3) ≤ (x0.size : Int) then ((whirligiglaw02_blank.f k (x0.extract (x6 : Int).toNat (((rd_T32 x26 x28).f3) : Int).toNat)).bind fun t244 => (if t244 = true then (whirligiglaw02_TokPlaces.l0 k x0 (wrap64 (((rd_T32 x26 x28).f3) + (1 + (((rd_T32 x26 x28).f1).size : Int) + 1))) x26 x27 (wrap64 (x28 + 1))) else (some false))) else (none)) else (none)) else (none)) else (some false)) else (none)) else (none)) else (none)))) else (none)) else (none)) else (if ((rd_T32 x26 x28).f3) < x6 then (some false) else (if ((rd_T32 x26 x28).f3) > (wrap64 ((x0.size : Int) - (((rd_T32 x26 x28).f1).size : Int))) then (some false) else (if 0 ≤ ((rd_T32 x26 x28).f3) then (if ((rd_T32 x26 x28).f3) ≤ (wrap64 (((rd_T32 x26 x28).f3) + (((rd_T32 x26 x28).f1).size : Int))) then (if (wrap64 (((rd_T32 x26 x28).f3) + (((rd_T32 x26 x28).f1).size : Int))) ≤ (x0.size : Int) then (if (x0.extract (((rd_T32 x26 x28).f3) : Int).toNat ((wrap64 (((rd_T32 x26 x28).f3) + (((rd_T32 x26 x28).f1).size : Int))) : Int).toNat).toList = ((rd_T32 x26 x28).f1).toList then (if 0 ≤ x6 then (if x6 ≤ ((rd_T32 x26 x28).f3) then (if ((rd_T32 x26 x28).f3) ≤ (x0.size : Int) then ((whirligiglaw02_blank.f k (x0.extract (x6 : Int).toNat (((rd_T32 x26 x28).f3) : Int).toNat)).bind fun t245 => (if t245 = true then (whirligiglaw02_TokPlaces.l0 k x0 (wrap64 (((rd_T32 x26 x28).f3) + (((rd_T32 x26 x28).f1).size : Int))) x26 x27 (wrap64 (x28 + 1))) else (some false))) else (none)) else (none)) else (none)) else (some false)) else (none)) else (none)) else (none))))) else (none)) else (none)) else (if 0 ≤ x6 then (if x6 ≤ (x0.size : Int) then ((whirligiglaw02_blank.f k (x0.extract (x6 : Int).toNat x0.size)).bind fun t241 => (some t241)) else (none)) else (none))
def whirligiglaw02_TokPlaces.f (k : Nat) (a0 : ByteArray) : Option (Bool) := (whirligiglaw02_anchor.f k).bind fun t235 => (if t235 = true then (if (a0.size : Int) > 1000 then (some true) else ((tok_Lex.f k a0).bind fun bt236 => (if bt236.2.1 = 0 then (whirligiglaw02_TokPlaces.l0 k a0 0 bt236.1 (bt236.1.length : Int) 0) else (some ((bt236.1.length : Int) == 0))))) else (some false))
theorem whirligiglaw02_TokPlaces.mono_l : ∀ k, (∀ y0 y1 y2 y3 y4, LeO (whirligiglaw02_TokPlaces.l0 k y0 y1 y2 y3 y4) (whirligiglaw02_TokPlaces.l0 (k + 1) y0 y1 y2 y3 y4))
 | 0 => fun _ _ _ _ _ r h => by simp [whirligiglaw02_TokPlaces.l0] at h
 | k + 1 => by
  have ih0 := whirligiglaw02_TokPlaces.mono_l k
  ·intro y0 y1 y2 y3 y4
   unfold whirligiglaw02_TokPlaces.l0
   repeat' first
   | (with_reducible exact ih0 _ _ _ _ _)
   | (with_reducible exact tok_Lex.mono _ _)
   | (with_reducible exact whirligiglaw02_anchor.mono _)
   | (with_reducible exact whirligiglaw02_blank.mono _ _)
   | (with_reducible exact LeO.refl _)
   | (with_reducible exact LeO.none _)
   | (with_reducible refine LeO.ite ?_ ?_)
   | (with_reducible refine LeO.bind ?_ (fun _ => ?_))
   | exact ih0 _ _ _ _ _
   | exact tok_Lex.mono _ _
   | exact whirligiglaw02_anchor.mono _
   | exact whirligiglaw02_blank.mono _ _
   | exact LeO.none _
   | refine LeO.ite ?_ ?_
   | refine LeO.bind ?_ (fun _ => ?_)
theorem whirligiglaw02_TokPlaces.mono : ∀ a0 k, LeO (whirligiglaw02_TokPlaces.f k a0) (whirligiglaw02_TokPlaces.f (k + 1) a0) := by
 intro a0 k
 have ih0 := whirligiglaw02_TokPlaces.mono_l k
 unfold whirligiglaw02_TokPlaces.f
 repeat' first
   | (with_reducible exact ih0 _ _ _ _ _)
   | (with_reducible exact tok_Lex.mono _ _)
   | (with_reducible exact whirligiglaw02_anchor.mono _)
   | (with_reducible exact whirligiglaw02_blank.mono _ _)
   | (with_reducible exact LeO.refl _)
   | (with_reducible exact LeO.none _)
   | (with_reducible refine LeO.ite ?_ ?_)
   | (with_reducible refine LeO.bind ?_ (fun _ => ?_))
   | exact ih0 _ _ _ _ _
   | exact tok_Lex.mono _ _
   | exact whirligiglaw02_anchor.mono _
   | exact whirligiglaw02_blank.mono _ _
   | exact LeO.none _
   | refine LeO.ite ?_ ?_
   | refine LeO.bind ?_ (fun _ => ?_)
mutual
def tok_Token_Is.j0 : Nat → List ByteArray → Bool → Int → ByteArray → Int → Int → Option (Bool)
 | 0, _, _, _, _, _, _ => none
 | k + 1, x1, x14, x247000, x247001, x247002, x247003 => if x14 = true then (some false) else (tok_Token_Is.l0 k x1 (x1.length : Int) 0 x247000 x247001 x247002 x247003)
def tok_Token_Is.l0 : Nat → List ByteArray → Int → Int → Int → ByteArray → Int → Int → Option (Bool)
 | 0, _, _, _, _, _, _, _ => none
 | k + 1, x15, x16, x17, x247000, x247001, x247002, x247003 => if x17 < x16 then (if 0 ≤ x17 then (if x17 < (x15.length : Int) then (if x247001.toList = (rdOf ByteArray.empty x15 x17).toList then (some true) else (tok_Token_Is.l0 k x15 x16 (wrap64 (x17 + 1)) x247000 x247001 x247002 x247003)) else (none)) else (none)) else (some false)
end
def tok_Token_Is.f (k : Nat) (a0_0 : Int) (a0_1 : ByteArray) (a0_2 : Int) (a0_3 : Int) (l1 : List ByteArray) : Option (Bool) := if a0_0 = 1 then (tok_Token_Is.j0 k l1 false a0_0 a0_1 a0_2 a0_3) else (tok_Token_Is.j0 k l1 (a0_0 != 5) a0_0 a0_1 a0_2 a0_3)
theorem tok_Token_Is.mono_l : ∀ k, (∀ y0 y1 y2 y3 y4 y5, LeO (tok_Token_Is.j0 k y0 y1 y2 y3 y4 y5) (tok_Token_Is.j0 (k + 1) y0 y1 y2 y3 y4 y5)) ∧ (∀ y0 y1 y2 y3 y4 y5 y6, LeO (tok_Token_Is.l0 k y0 y1 y2 y3 y4 y5 y6) (tok_Token_Is.l0 (k + 1) y0 y1 y2 y3 y4 y5 y6))
 | 0 => ⟨fun _ _ _ _ _ _ r h => by simp [tok_Token_Is.j0] at h, fun _ _ _ _ _ _ _ r h => by simp [tok_Token_Is.l0] at h⟩
 | k + 1 => by
  obtain ⟨ih0, ih1⟩ := tok_Token_Is.mono_l k
  refine ⟨?_, ?_⟩
  ·intro y0 y1 y2 y3 y4 y5
   unfold tok_Token_Is.j0
   repeat' first
   | (with_reducible exact ih0 _ _ _ _ _ _)
   | (with_reducible exact ih1 _ _ _ _ _ _ _)
   | (with_reducible exact LeO.refl _)
   | (with_reducible exact LeO.none _)
   | (with_reducible refine LeO.ite ?_ ?_)
   | (with_reducible refine LeO.bind ?_ (fun _ => ?_))
   | exact ih0 _ _ _ _ _ _
   | exact ih1 _ _ _ _ _ _ _
   | exact LeO.none _
   | refine LeO.ite ?_ ?_
   | refine LeO.bind ?_ (fun _ => ?_)
  ·intro y0 y1 y2 y3 y4 y5 y6
   unfold tok_Token_Is.l0
   repeat' first
   | (with_reducible exact ih0 _ _ _ _ _ _)
   | (with_reducible exact ih1 _ _ _ _ _ _ _)
   | (with_reducible exact LeO.refl _)
   | (with_reducible exact LeO.none _)
   | (with_reducible refine LeO.ite ?_ ?_)
   | (with_reducible refine LeO.bind ?_ (fun _ => ?_))
   | exact ih0 _ _ _ _ _ _
   | exact ih1 _ _ _ _ _ _ _
   | exact LeO.none _
   | refine LeO.ite ?_ ?_
   | refine LeO.bind ?_ (fun _ => ?_)
theorem tok_Token_Is.mono : ∀ a0 a1 a2 a3 a4 k, LeO (tok_Token_Is.f k a0 a1 a2 a3 a4) (tok_Token_Is.f (k + 1) a0 a1 a2 a3 a4) := by
 intro a0 a1 a2 a3 a4 k
 obtain ⟨ih0, ih1⟩ := tok_Token_Is.mono_l k
 unfold tok_Token_Is.f
 repeat' first
   | (with_reducible exact ih0 _ _ _ _ _ _)
   | (with_reducible exact ih1 _ _ _ _ _ _ _)
   | (with_reducible exact LeO.refl _)
   | (with_reducible exact LeO.none _)
   | (with_reducible refine LeO.ite ?_ ?_)
   | (with_reducible refine LeO.bind ?_ (fun _ => ?_))
   | exact ih0 _ _ _ _ _ _
   | exact ih1 _ _ _ _ _ _ _
   | exact LeO.none _
   | refine LeO.ite ?_ ?_
   | refine LeO.bind ?_ (fun _ => ?_)
end Go.Proofs.YtbngfhlciebeeaaDoor.L
