/- Printed and hand-written steps towards the row (TokIs), those that it reaches. -/
import Derived.Test.YtbngfhlciebeeaaDoorTokIsLx0
import Derived.Test.YtbngfhlciebeeaaDoorTokIsLxf19
import Derived.Test.YtbngfhlciebeeaaDoorTokIsLxf110
namespace Go.Proofs.YtbngfhlciebeeaaDoor.L
open Go.RowKit Go.Proofs.YtbngfhlciebeeaaDoorW.PrintWords Go.Proofs.YtbngfhlciebeeaaDoorW.PrintLast Go.Proofs.YtbngfhlciebeeaaDoorW.PrintMore
attribute [local go_sem] max2_int min2_int max_two min_two max_three min_three max_four min_four   -- for this text's walks alone
set_option linter.unusedVariables false
set_option linter.unusedSimpArgs false
mutual
def whirligigref02_sign.j0 : Nat → ByteArray → Int → Int → Bool → Option (Int × ByteArray × Int × Int × Int × Int)
  | 0, _, _, _, _ => none
  | k + 1, x0, x1, x7, x36 => if x36 = true then (if 0 ≤ x1 then (if x1 ≤ (wrap64 (x1 + 2)) then (if (wrap64 (x1 + 2)) ≤ (x0.size : Int) then (some (5, x0.extract (x1 : Int).toNat ((wrap64 (x1 + 2)) : Int).toNat, 0, x1, wrap64 (x1 + 2), 0)) else (none)) else (none)) else (none)) else (whirligigref02_sign.l0 k x0 x1 x7 (⟨#[40, 41, 59, 58, 43, 45, 42, 47, 37, 60, 62, 61]⟩ : ByteArray) 0)
def whirligigref02_sign.l0 : Nat → ByteArray → Int → Int → ByteArray → Int → Option (Int × ByteArray × Int × Int × Int × Int)
  | 0, _, _, _, _, _ => none
  | k + 1, x0, x1, x7, x8, x9 => if x9 < (x8.size : Int) then (if 0 ≤ x9 then (if (bt x8 x9) = x7 then (if 0 ≤ x1 then (if x1 ≤ (wrap64 (x1 + 1)) then (if (wrap64 (x1 + 1)) ≤ (x0.size : Int) then (some (5, x0.extract (x1 : Int).toNat ((wrap64 (x1 + 1)) : Int).toNat, 0, x1, wrap64 (x1 + 1), 0)) else (none)) else (none)) else (none)) else (whirligigref02_sign.l0 k x0 x1 x7 x8 (wrap64 (x9 + 1)))) else (none)) else (some (0, (⟨#[]⟩ : ByteArray), 0, 0, x1, 11))
end
def whirligigref02_sign.f (k : Nat) (a0 : ByteArray) (a1 : Int) : Option (Int × ByteArray × Int × Int × Int × Int) := if 0 ≤ a1 then (if a1 < (a0.size : Int) then (if (wrap64 (a1 + 1)) < (a0.size : Int) then (if 0 ≤ (wrap64 (a1 + 1)) then (if (bt a0 (wrap64 (a1 + 1))) = 61 then (if (bt a0 a1) = 60 then (whirligigref02_sign.j0 k a0 a1 (bt a0 a1) true) else (if (bt a0 a1) = 62 then (whirligigref02_sign.j0 k a0 a1 (bt a0 a1) true) else (whirligigref02_sign.j0 k a0 a1 (bt a0 a1) ((bt a0 a1) == 33)))) else (whirligigref02_sign.j0 k a0 a1 (bt a0 a1) false)) else (none)) else (whirligigref02_sign.j0 k a0 a1 (bt a0 a1) false)) else (none)) else (none)
theorem whirligigref02_sign.mono_l : ∀ k, (∀ y0 y1 y2 y3, LeO (whirligigref02_sign.j0 k y0 y1 y2 y3) (whirligigref02_sign.j0 (k + 1) y0 y1 y2 y3)) ∧ (∀ y0 y1 y2 y3 y4, LeO (whirligigref02_sign.l0 k y0 y1 y2 y3 y4) (whirligigref02_sign.l0 (k + 1) y0 y1 y2 y3 y4))
  | 0 => ⟨fun _ _ _ _ r h => by simp [whirligigref02_sign.j0] at h, fun _ _ _ _ _ r h => by simp [whirligigref02_sign.l0] at h⟩
  | k + 1 => by
    obtain ⟨ih0, ih1⟩ := whirligigref02_sign.mono_l k
    refine ⟨?_, ?_⟩
    · intro y0 y1 y2 y3
      unfold whirligigref02_sign.j0
      repeat' first
      | (with_reducible exact ih0 _ _ _ _)
      | (with_reducible exact ih1 _ _ _ _ _)
      | (with_reducible exact LeO.refl _)
      | (with_reducible exact LeO.none _)
      | (with_reducible refine LeO.ite ?_ ?_)
      | (with_reducible refine LeO.bind ?_ (fun _ => ?_))
      | exact ih0 _ _ _ _
      | exact ih1 _ _ _ _ _
      | exact LeO.none _
      | refine LeO.ite ?_ ?_
      | refine LeO.bind ?_ (fun _ => ?_)
    · intro y0 y1 y2 y3 y4
      unfold whirligigref02_sign.l0
      repeat' first
      | (with_reducible exact ih0 _ _ _ _)
      | (with_reducible exact ih1 _ _ _ _ _)
      | (with_reducible exact LeO.refl _)
      | (with_reducible exact LeO.none _)
      | (with_reducible refine LeO.ite ?_ ?_)
      | (with_reducible refine LeO.bind ?_ (fun _ => ?_))
      | exact ih0 _ _ _ _
      | exact ih1 _ _ _ _ _
      | exact LeO.none _
      | refine LeO.ite ?_ ?_
      | refine LeO.bind ?_ (fun _ => ?_)
theorem whirligigref02_sign.mono : ∀ a0 a1 k, LeO (whirligigref02_sign.f k a0 a1) (whirligigref02_sign.f (k + 1) a0 a1) := by
  intro a0 a1 k
  obtain ⟨ih0, ih1⟩ := whirligigref02_sign.mono_l k
  unfold whirligigref02_sign.f
  repeat' first
      | (with_reducible exact ih0 _ _ _ _)
      | (with_reducible exact ih1 _ _ _ _ _)
      | (with_reducible exact LeO.refl _)
      | (with_reducible exact LeO.none _)
      | (with_reducible refine LeO.ite ?_ ?_)
      | (with_reducible refine LeO.bind ?_ (fun _ => ?_))
      | exact ih0 _ _ _ _
      | exact ih1 _ _ _ _ _
      | exact LeO.none _
      | refine LeO.ite ?_ ?_
      | refine LeO.bind ?_ (fun _ => ?_)
def whirligigref02_Token.j0 : Nat → ByteArray → Int → Int → Bool → Option (Int × ByteArray × Int × Int × Int × Int)
  | 0, _, _, _, _ => none
  | k + 1, x0, x1, x7, x24 => if x24 = true then ((whirligigref02_number.f k x0 x1).bind fun bt194 => (some (bt194.1, bt194.2.1, bt194.2.2.1, bt194.2.2.2.1, bt194.2.2.2.2.1, bt194.2.2.2.2.2))) else (if x7 = 39 then ((whirligigref02_quote.f k x0 x1).bind fun bt200 => (some (bt200.1, bt200.2.1, bt200.2.2.1, bt200.2.2.2.1, bt200.2.2.2.2.1, bt200.2.2.2.2.2))) else ((whirligigref02_sign.f k x0 x1).bind fun bt206 => (some (bt206.1, bt206.2.1, bt206.2.2.1, bt206.2.2.2.1, bt206.2.2.2.2.1, bt206.2.2.2.2.2))))
def whirligigref02_Token.f (k : Nat) (a0 : ByteArray) (a1 : Int) : Option (Int × ByteArray × Int × Int × Int × Int) := if 0 ≤ a1 then (if a1 < (a0.size : Int) then ((whirligigref02_letter.f (bt a0 a1)).bind fun t187 => (if t187 = true then ((whirligigref02_path.f k a0 a1).bind fun bt188 => (some (bt188.1, bt188.2.1, bt188.2.2.1, bt188.2.2.2.1, bt188.2.2.2.2.1, bt188.2.2.2.2.2))) else (if (bt a0 a1) ≥ 48 then (whirligigref02_Token.j0 k a0 a1 (bt a0 a1) (decide ((bt a0 a1) ≤ 57))) else (whirligigref02_Token.j0 k a0 a1 (bt a0 a1) false)))) else (none)) else (none)
theorem whirligigref02_Token.mono_l : ∀ k, (∀ y0 y1 y2 y3, LeO (whirligigref02_Token.j0 k y0 y1 y2 y3) (whirligigref02_Token.j0 (k + 1) y0 y1 y2 y3))
  | 0 => fun _ _ _ _ r h => by simp [whirligigref02_Token.j0] at h
  | k + 1 => by
    have ih0 := whirligigref02_Token.mono_l k
    · intro y0 y1 y2 y3
      unfold whirligigref02_Token.j0
      repeat' first
      | (with_reducible exact ih0 _ _ _ _)
      | (with_reducible exact whirligigref02_number.mono _ _ _)
      | (with_reducible exact whirligigref02_path.mono _ _ _)
      | (with_reducible exact whirligigref02_quote.mono _ _ _)
      | (with_reducible exact whirligigref02_sign.mono _ _ _)
      | (with_reducible exact LeO.refl _)
      | (with_reducible exact LeO.none _)
      | (with_reducible refine LeO.ite ?_ ?_)
      | (with_reducible refine LeO.bind ?_ (fun _ => ?_))
      | exact ih0 _ _ _ _
      | exact whirligigref02_number.mono _ _ _
      | exact whirligigref02_path.mono _ _ _
      | exact whirligigref02_quote.mono _ _ _
      | exact whirligigref02_sign.mono _ _ _
      | exact LeO.none _
      | refine LeO.ite ?_ ?_
      | refine LeO.bind ?_ (fun _ => ?_)
theorem whirligigref02_Token.mono : ∀ a0 a1 k, LeO (whirligigref02_Token.f k a0 a1) (whirligigref02_Token.f (k + 1) a0 a1) := by
  intro a0 a1 k
  have ih0 := whirligigref02_Token.mono_l k
  unfold whirligigref02_Token.f
  repeat' first
      | (with_reducible exact ih0 _ _ _ _)
      | (with_reducible exact whirligigref02_number.mono _ _ _)
      | (with_reducible exact whirligigref02_path.mono _ _ _)
      | (with_reducible exact whirligigref02_quote.mono _ _ _)
      | (with_reducible exact whirligigref02_sign.mono _ _ _)
      | (with_reducible exact LeO.refl _)
      | (with_reducible exact LeO.none _)
      | (with_reducible refine LeO.ite ?_ ?_)
      | (with_reducible refine LeO.bind ?_ (fun _ => ?_))
      | exact ih0 _ _ _ _
      | exact whirligigref02_number.mono _ _ _
      | exact whirligigref02_path.mono _ _ _
      | exact whirligigref02_quote.mono _ _ _
      | exact whirligigref02_sign.mono _ _ _
      | exact LeO.none _
      | refine LeO.ite ?_ ?_
      | refine LeO.bind ?_ (fun _ => ?_)
def whirligigref02_Lex.l0 : Nat → ByteArray → List (S31) → Int → Option ((List (S31)) × Int × Int)
  | 0, _, _, _ => none
  | k + 1, x0, x5, x6 => if x6 < (x0.size : Int) then (if 0 ≤ x6 then (if (bt x0 x6) = 32 then (whirligigref02_Lex.l0 k x0 x5 (wrap64 (x6 + 1))) else (if (x5.length : Int) = 120 then (some (([] : List (S31)), 13, x6)) else ((whirligigref02_Token.f k x0 x6).bind fun bt212 => (if bt212.2.2.2.2.2 = 0 then (if x5.length < 3518437208883 then (whirligigref02_Lex.l0 k x0 (x5 ++ [(⟨bt212.1, bt212.2.1, bt212.2.2.1, bt212.2.2.2.1⟩ : S31)]) bt212.2.2.2.2.1) else (none)) else (some (([] : List (S31)), bt212.2.2.2.2.2, x6)))))) else (none)) else (some (x5, 0, 0))
def whirligigref02_Lex.f (k : Nat) (a0 : ByteArray) : Option ((List (S31)) × Int × Int) := whirligigref02_Lex.l0 k a0 ([] : List (S31)) 0
theorem whirligigref02_Lex.mono_l : ∀ k, (∀ y0 y1 y2, LeO (whirligigref02_Lex.l0 k y0 y1 y2) (whirligigref02_Lex.l0 (k + 1) y0 y1 y2))
  | 0 => fun _ _ _ r h => by simp [whirligigref02_Lex.l0] at h
  | k + 1 => by
    have ih0 := whirligigref02_Lex.mono_l k
    · intro y0 y1 y2
      unfold whirligigref02_Lex.l0
      repeat' first
      | (with_reducible exact ih0 _ _ _)
      | (with_reducible exact whirligigref02_Token.mono _ _ _)
      | (with_reducible exact LeO.refl _)
      | (with_reducible exact LeO.none _)
      | (with_reducible refine LeO.ite ?_ ?_)
      | (with_reducible refine LeO.bind ?_ (fun _ => ?_))
      | exact ih0 _ _ _
      | exact whirligigref02_Token.mono _ _ _
      | exact LeO.none _
      | refine LeO.ite ?_ ?_
      | refine LeO.bind ?_ (fun _ => ?_)
theorem whirligigref02_Lex.mono : ∀ a0 k, LeO (whirligigref02_Lex.f k a0) (whirligigref02_Lex.f (k + 1) a0) := by
  intro a0 k
  have ih0 := whirligigref02_Lex.mono_l k
  unfold whirligigref02_Lex.f
  repeat' first
      | (with_reducible exact ih0 _ _ _)
      | (with_reducible exact whirligigref02_Token.mono _ _ _)
      | (with_reducible exact LeO.refl _)
      | (with_reducible exact LeO.none _)
      | (with_reducible refine LeO.ite ?_ ?_)
      | (with_reducible refine LeO.bind ?_ (fun _ => ?_))
      | exact ih0 _ _ _
      | exact whirligigref02_Token.mono _ _ _
      | exact LeO.none _
      | refine LeO.ite ?_ ?_
      | refine LeO.bind ?_ (fun _ => ?_)
end Go.Proofs.YtbngfhlciebeeaaDoor.L
