/- Printed and hand-written steps towards the row (TokJoins), those that it reaches. -/
import Derived.Test.YtbngfhlciebeeaaDoorTokJoinsLx0
import Derived.Test.YtbngfhlciebeeaaDoorTokJoinsLxf19
import Derived.Test.YtbngfhlciebeeaaDoorTokJoinsLxf112
import Derived.Test.YtbngfhlciebeeaaDoorTokJoinsLxf4
import Derived.Test.YtbngfhlciebeeaaDoorTokJoinsGLex
namespace Go.Proofs.YtbngfhlciebeeaaDoor.L
open Go.RowKit Go.Proofs.YtbngfhlciebeeaaDoorW.PrintWords Go.Proofs.YtbngfhlciebeeaaDoorW.PrintLast Go.Proofs.YtbngfhlciebeeaaDoorW.PrintMore
attribute [local go_sem] max2_int min2_int max_two min_two max_three min_three max_four min_four   -- for this text's walks alone
set_option linter.unusedVariables false
set_option linter.unusedSimpArgs false
def whirligiglaw02_TokIs.l0 : Nat → List ByteArray → Bool → List ByteArray → Int → Int → Int → ByteArray → Int → Int → Option (Bool)
  | 0, _, _, _, _, _, _, _, _, _ => none
  | k + 1, x1, x5, x13, x14, x15, x249000, x249001, x249002, x249003 => if x15 < x14 then (if 0 ≤ x15 then (if x15 < (x13.length : Int) then (if x5 = true then (whirligiglaw02_TokIs.l0 k x1 true x13 x14 (wrap64 (x15 + 1)) x249000 x249001 x249002 x249003) else (whirligiglaw02_TokIs.l0 k x1 ((rdOf ByteArray.empty x13 x15).toList == x249001.toList) x13 x14 (wrap64 (x15 + 1)) x249000 x249001 x249002 x249003)) else (none)) else (none)) else ((tok_Token_Is.f k x249000 x249001 x249002 x249003 x1).bind fun t251 => (if x5 = true then (if x249000 = 1 then (some (t251 == true)) else (some (t251 == (x249000 == 5)))) else (some (t251 == false))))
def whirligiglaw02_TokIs.f (k : Nat) (a0_0 : Int) (a0_1 : ByteArray) (a0_2 : Int) (a0_3 : Int) (l1 : List ByteArray) : Option (Bool) := (whirligiglaw02_anchor.f k).bind fun t249 => (if t249 = true then (if (l1.length : Int) > 50 then (some true) else (whirligiglaw02_TokIs.l0 k l1 false l1 (l1.length : Int) 0 a0_0 a0_1 a0_2 a0_3)) else (some false))
theorem whirligiglaw02_TokIs.mono_l : ∀ k, (∀ y0 y1 y2 y3 y4 y5 y6 y7 y8, LeO (whirligiglaw02_TokIs.l0 k y0 y1 y2 y3 y4 y5 y6 y7 y8) (whirligiglaw02_TokIs.l0 (k + 1) y0 y1 y2 y3 y4 y5 y6 y7 y8))
  | 0 => fun _ _ _ _ _ _ _ _ _ r h => by simp [whirligiglaw02_TokIs.l0] at h
  | k + 1 => by
    have ih0 := whirligiglaw02_TokIs.mono_l k
    · intro y0 y1 y2 y3 y4 y5 y6 y7 y8
      unfold whirligiglaw02_TokIs.l0
      repeat' first
      | (with_reducible exact ih0 _ _ _ _ _ _ _ _ _)
      | (with_reducible exact tok_Token_Is.mono _ _ _ _ _ _)
      | (with_reducible exact whirligiglaw02_anchor.mono _)
      | (with_reducible exact LeO.refl _)
      | (with_reducible exact LeO.none _)
      | (with_reducible refine LeO.ite ?_ ?_)
      | (with_reducible refine LeO.bind ?_ (fun _ => ?_))
      | exact ih0 _ _ _ _ _ _ _ _ _
      | exact tok_Token_Is.mono _ _ _ _ _ _
      | exact whirligiglaw02_anchor.mono _
      | exact LeO.none _
      | refine LeO.ite ?_ ?_
      | refine LeO.bind ?_ (fun _ => ?_)
theorem whirligiglaw02_TokIs.mono : ∀ a0 a1 a2 a3 a4 k, LeO (whirligiglaw02_TokIs.f k a0 a1 a2 a3 a4) (whirligiglaw02_TokIs.f (k + 1) a0 a1 a2 a3 a4) := by
  intro a0 a1 a2 a3 a4 k
  have ih0 := whirligiglaw02_TokIs.mono_l k
  unfold whirligiglaw02_TokIs.f
  repeat' first
      | (with_reducible exact ih0 _ _ _ _ _ _ _ _ _)
      | (with_reducible exact tok_Token_Is.mono _ _ _ _ _ _)
      | (with_reducible exact whirligiglaw02_anchor.mono _)
      | (with_reducible exact LeO.refl _)
      | (with_reducible exact LeO.none _)
      | (with_reducible refine LeO.ite ?_ ?_)
      | (with_reducible refine LeO.bind ?_ (fun _ => ?_))
      | exact ih0 _ _ _ _ _ _ _ _ _
      | exact tok_Token_Is.mono _ _ _ _ _ _
      | exact whirligiglaw02_anchor.mono _
      | exact LeO.none _
      | refine LeO.ite ?_ ?_
      | refine LeO.bind ?_ (fun _ => ?_)
def tok_Event.f (k : Nat) (a0 : ByteArray) : Option (Bool) := (tok_Lex.f k a0).bind fun bt252 => (if bt252.2.1 = 0 then (if (bt252.1.length : Int) = 1 then (if 0 < (bt252.1.length : Int) then (if ((rd_T32 bt252.1 0).f0) = 1 then (some (((rd_T32 bt252.1 0).f1).toList == a0.toList)) else (if ((rd_T32 bt252.1 0).f0) = 2 then (some (((rd_T32 bt252.1 0).f1).toList == a0.toList)) else (some false))) else (none)) else (some false)) else (some false))
theorem tok_Event.mono : ∀ a0 k, LeO (tok_Event.f k a0) (tok_Event.f (k + 1) a0) := by
  intro a0 k
  unfold tok_Event.f
  repeat' first
      | (with_reducible exact tok_Lex.mono _ _)
      | (with_reducible exact LeO.refl _)
      | (with_reducible exact LeO.none _)
      | (with_reducible refine LeO.ite ?_ ?_)
      | (with_reducible refine LeO.bind ?_ (fun _ => ?_))
      | exact tok_Lex.mono _ _
      | exact LeO.none _
      | refine LeO.ite ?_ ?_
      | refine LeO.bind ?_ (fun _ => ?_)
def whirligigref02_Event.f (k : Nat) (a0 : ByteArray) : Option (Bool) := (whirligigref02_Lex.f k a0).bind fun bt261 => (if bt261.2.1 = 0 then (if (bt261.1.length : Int) = 1 then (if 0 < (bt261.1.length : Int) then (if ((rd_T31 bt261.1 0).f0) < 3 then (some (((rd_T31 bt261.1 0).f1).toList == a0.toList)) else (some false)) else (none)) else (some false)) else (some false))
theorem whirligigref02_Event.mono : ∀ a0 k, LeO (whirligigref02_Event.f k a0) (whirligigref02_Event.f (k + 1) a0) := by
  intro a0 k
  unfold whirligigref02_Event.f
  repeat' first
      | (with_reducible exact whirligigref02_Lex.mono _ _)
      | (with_reducible exact LeO.refl _)
      | (with_reducible exact LeO.none _)
      | (with_reducible refine LeO.ite ?_ ?_)
      | (with_reducible refine LeO.bind ?_ (fun _ => ?_))
      | exact whirligigref02_Lex.mono _ _
      | exact LeO.none _
      | refine LeO.ite ?_ ?_
      | refine LeO.bind ?_ (fun _ => ?_)
def tok_Means.f (a0 : ByteArray) : Option (Bool) := if a0.toList = ([99, 104, 97, 114, 116] : List UInt8) then (some true) else (if a0.toList = ([118, 97, 114] : List UInt8) then (some true) else (if a0.toList = ([115, 116, 97, 116, 101] : List UInt8) then (some true) else (if a0.toList = ([112, 97, 114, 97, 108, 108, 101, 108] : List UInt8) then (some true) else (if a0.toList = ([102, 105, 110, 97, 108] : List UInt8) then (some true) else (if a0.toList = ([100, 101, 101, 112] : List UInt8) then (some true) else (if a0.toList = ([115, 104, 97, 108, 108, 111, 119] : List UInt8) then (some true) else (if a0.toList = ([101, 110, 116, 101, 114] : List UInt8) then (some true) else (if a0.toList = ([101, 120, 105, 116] : List UInt8) then (some true) else (if a0.toList = ([111, 110] : List UInt8) then (some true) else (if a0.toList = ([97, 117, 116, 111] : List UInt8) then (some true) else (if a0.toList = ([101, 110, 100] : List UInt8) then (some true) else (if a0.toList = ([105, 102] : List UInt8) then (some true) else (if a0.toList = ([103, 111] : List UInt8) then (some true) else (if a0.toList = ([105, 110, 110, 101, 114] : List UInt8) then (some true) else (if a0.toList = ([100, 111] : List UInt8) then (some true) else (if a0.toList = ([115, 101, 116] : List UInt8) then (some true) else (if a0.toList = ([114, 97, 105, 115, 101] : List UInt8) then (some true) else (if a0.toList = ([115, 101, 110, 100] : List UInt8) then (some true) else (if a0.toList = ([99, 97, 110, 99, 101, 108] : List UInt8) then (some true) else (if a0.toList = ([108, 111, 103] : List UInt8) then (some true) else (if a0.toList = ([116, 114, 117, 101] : List UInt8) then (some true) else (if a0.toList = ([102, 97, 108, 115, 101] : List UInt8) then (some true) else (if a0.toList = ([110, 111, 116] : List UInt8) then (some true) else (if a0.toList = ([97, 110, 100] : List UInt8) then (some true) else (if a0.toList = ([111, 114] : List UInt8) then (some true) else (if a0.toList = ([105, 110] : List UInt8) then (some true) else (some false)))))))))))))))))))))))))))
def tok_Name.f (k : Nat) (a0 : ByteArray) : Option (Bool) := (tok_Lex.f k a0).bind fun bt268 => (if bt268.2.1 = 0 then (if (bt268.1.length : Int) = 1 then (if 0 < (bt268.1.length : Int) then (if ((rd_T32 bt268.1 0).f0) = 1 then (if ((rd_T32 bt268.1 0).f1).toList = a0.toList then ((tok_Means.f a0).bind fun t275 => (some (!t275))) else (some false)) else (some false)) else (none)) else (some false)) else (some false))
theorem tok_Name.mono : ∀ a0 k, LeO (tok_Name.f k a0) (tok_Name.f (k + 1) a0) := by
  intro a0 k
  unfold tok_Name.f
  repeat' first
      | (with_reducible exact tok_Lex.mono _ _)
      | (with_reducible exact LeO.refl _)
      | (with_reducible exact LeO.none _)
      | (with_reducible refine LeO.ite ?_ ?_)
      | (with_reducible refine LeO.bind ?_ (fun _ => ?_))
      | exact tok_Lex.mono _ _
      | exact LeO.none _
      | refine LeO.ite ?_ ?_
      | refine LeO.bind ?_ (fun _ => ?_)
end Go.Proofs.YtbngfhlciebeeaaDoor.L
