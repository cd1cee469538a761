/- Printed and hand-written steps towards the row (TokIs), those that it reaches. -/
import Derived.Test.YtbngfhlciebeeaaDoorTokIsLx0
import Derived.Test.YtbngfhlciebeeaaDoorTokIsLxf19
namespace Go.Proofs.YtbngfhlciebeeaaDoor.L
open Go.RowKit Go.Proofs.YtbngfhlciebeeaaDoorW.PrintWords Go.Proofs.YtbngfhlciebeeaaDoorW.PrintLast Go.Proofs.YtbngfhlciebeeaaDoorW.PrintMore
attribute [local go_sem] max2_int min2_int max_two min_two max_three min_three max_four min_four   -- for this text's walks alone
set_option linter.unusedVariables false
set_option linter.unusedSimpArgs false
mutual
def whirligigref01_Number.j0 : Nat → ByteArray → ByteArray → Bool → Option (Int × Bool)
  | 0, _, _, _ => none
  | k + 1, x0, x4, x16 => if x16 = true then (if 1 ≤ (x0.size : Int) then (whirligigref01_Number.j1 k x0 (x0.extract 1 x0.size)) else (none)) else (whirligigref01_Number.j1 k x0 x4)
def whirligigref01_Number.j1 : Nat → ByteArray → ByteArray → Option (Int × Bool)
  | 0, _, _ => none
  | k + 1, x0, x4 => if (x4.size : Int) = 0 then (whirligigref01_Number.j2 k x0 x4 true) else (whirligigref01_Number.j2 k x0 x4 (decide ((x4.size : Int) > 19)))
def whirligigref01_Number.j2 : Nat → ByteArray → ByteArray → Bool → Option (Int × Bool)
  | 0, _, _, _ => none
  | k + 1, x0, x4, x26 => if x26 = true then (some (0, false)) else (whirligigref01_Number.l0 k x0 x4 0 0)
def whirligigref01_Number.l0 : Nat → ByteArray → ByteArray → Int → Int → Option (Int × Bool)
  | 0, _, _, _, _ => none
  | k + 1, x0, x4, x5, x6 => if x6 < (x4.size : Int) then (if 0 ≤ x6 then (if (bt x4 x6) < 48 then (whirligigref01_Number.j4 k x0 x4 x5 x6 true) else (whirligigref01_Number.j4 k x0 x4 x5 x6 (decide ((bt x4 x6) > 57)))) else (none)) else (if (x4.size : Int) = (x0.size : Int) then (if x5 = (-9223372036854775808) then (some (0, false)) else ((whirligigref01_Digits.f k (wrap64 (-x5))).bind fun t178 => (some (wrap64 (-x5), (t178.toList == x0.toList))))) else ((whirligigref01_Digits.f k x5).bind fun t179 => (some (x5, (t179.toList == x0.toList)))))
def whirligigref01_Number.j4 : Nat → ByteArray → ByteArray → Int → Int → Bool → Option (Int × Bool)
  | 0, _, _, _, _, _ => none
  | k + 1, x0, x4, x5, x6, x42 => if x42 = true then (some (0, false)) else (if 0 ≤ x6 then (if x6 < (x4.size : Int) then (if x5 < (Int.tdiv ((-9223372036854775808) + (((bt x4 x6) - 48) % 256)) 10) then (some (0, false)) else (whirligigref01_Number.l0 k x0 x4 (wrap64 ((wrap64 (10 * x5)) - (((bt x4 x6) - 48) % 256))) (wrap64 (x6 + 1)))) else (none)) else (none))
end
def whirligigref01_Number.f (k : Nat) (a0 : ByteArray) : Option (Int × Bool) := if (a0.size : Int) > 0 then (if 0 < (a0.size : Int) then (whirligigref01_Number.j0 k a0 a0 ((bt a0 0) == 45)) else (none)) else (whirligigref01_Number.j0 k a0 a0 false)
theorem whirligigref01_Number.mono_l : ∀ k, (∀ y0 y1 y2, LeO (whirligigref01_Number.j0 k y0 y1 y2) (whirligigref01_Number.j0 (k + 1) y0 y1 y2)) ∧ (∀ y0 y1, LeO (whirligigref01_Number.j1 k y0 y1) (whirligigref01_Number.j1 (k + 1) y0 y1)) ∧ (∀ y0 y1 y2, LeO (whirligigref01_Number.j2 k y0 y1 y2) (whirligigref01_Number.j2 (k + 1) y0 y1 y2)) ∧ (∀ y0 y1 y2 y3, LeO (whirligigref01_Number.l0 k y0 y1 y2 y3) (whirligigref01_Number.l0 (k + 1) y0 y1 y2 y3)) ∧ (∀ y0 y1 y2 y3 y4, LeO (whirligigref01_Number.j4 k y0 y1 y2 y3 y4) (whirligigref01_Number.j4 (k + 1) y0 y1 y2 y3 y4))
  | 0 => ⟨fun _ _ _ r h => by simp [whirligigref01_Number.j0] at h, fun _ _ r h => by simp [whirligigref01_Number.j1] at h, fun _ _ _ r h => by simp [whirligigref01_Number.j2] at h, fun _ _ _ _ r h => by simp [whirligigref01_Number.l0] at h, fun _ _ _ _ _ r h => by simp [whirligigref01_Number.j4] at h⟩
  | k + 1 => by
    obtain ⟨ih0, ih1, ih2, ih3, ih4⟩ := whirligigref01_Number.mono_l k
    refine ⟨?_, ?_, ?_, ?_, ?_⟩
    · intro y0 y1 y2
      unfold whirligigref01_Number.j0
      repeat' first
      | (with_reducible exact ih0 _ _ _)
      | (with_reducible exact ih1 _ _)
      | (with_reducible exact ih2 _ _ _)
      | (with_reducible exact ih3 _ _ _ _)
      | (with_reducible exact ih4 _ _ _ _ _)
      | (with_reducible exact whirligigref01_Digits.mono _ _)
      | (with_reducible exact LeO.refl _)
      | (with_reducible exact LeO.none _)
      | (with_reducible refine LeO.ite ?_ ?_)
      | (with_reducible refine LeO.bind ?_ (fun _ => ?_))
      | exact ih0 _ _ _
      | exact ih1 _ _
      | exact ih2 _ _ _
      | exact ih3 _ _ _ _
      | exact ih4 _ _ _ _ _
      | exact whirligigref01_Digits.mono _ _
      | exact LeO.none _
      | refine LeO.ite ?_ ?_
      | refine LeO.bind ?_ (fun _ => ?_)
    · intro y0 y1
      unfold whirligigref01_Number.j1
      repeat' first
      | (with_reducible exact ih0 _ _ _)
      | (with_reducible exact ih1 _ _)
      | (with_reducible exact ih2 _ _ _)
      | (with_reducible exact ih3 _ _ _ _)
      | (with_reducible exact ih4 _ _ _ _ _)
      | (with_reducible exact whirligigref01_Digits.mono _ _)
      | (with_reducible exact LeO.refl _)
      | (with_reducible exact LeO.none _)
      | (with_reducible refine LeO.ite ?_ ?_)
      | (with_reducible refine LeO.bind ?_ (fun _ => ?_))
      | exact ih0 _ _ _
      | exact ih1 _ _
      | exact ih2 _ _ _
      | exact ih3 _ _ _ _
      | exact ih4 _ _ _ _ _
      | exact whirligigref01_Digits.mono _ _
      | exact LeO.none _
      | refine LeO.ite ?_ ?_
      | refine LeO.bind ?_ (fun _ => ?_)
    · intro y0 y1 y2
      unfold whirligigref01_Number.j2
      repeat' first
      | (with_reducible exact ih0 _ _ _)
      | (with_reducible exact ih1 _ _)
      | (with_reducible exact ih2 _ _ _)
      | (with_reducible exact ih3 _ _ _ _)
      | (with_reducible exact ih4 _ _ _ _ _)
      | (with_reducible exact whirligigref01_Digits.mono _ _)
      | (with_reducible exact LeO.refl _)
      | (with_reducible exact LeO.none _)
      | (with_reducible refine LeO.ite ?_ ?_)
      | (with_reducible refine LeO.bind ?_ (fun _ => ?_))
      | exact ih0 _ _ _
      | exact ih1 _ _
      | exact ih2 _ _ _
      | exact ih3 _ _ _ _
      | exact ih4 _ _ _ _ _
      | exact whirligigref01_Digits.mono _ _
      | exact LeO.none _
      | refine LeO.ite ?_ ?_
      | refine LeO.bind ?_ (fun _ => ?_)
    · intro y0 y1 y2 y3
      unfold whirligigref01_Number.l0
      repeat' first
      | (with_reducible exact ih0 _ _ _)
      | (with_reducible exact ih1 _ _)
      | (with_reducible exact ih2 _ _ _)
      | (with_reducible exact ih3 _ _ _ _)
      | (with_reducible exact ih4 _ _ _ _ _)
      | (with_reducible exact whirligigref01_Digits.mono _ _)
      | (with_reducible exact LeO.refl _)
      | (with_reducible exact LeO.none _)
      | (with_reducible refine LeO.ite ?_ ?_)
      | (with_reducible refine LeO.bind ?_ (fun _ => ?_))
      | exact ih0 _ _ _
      | exact ih1 _ _
      | exact ih2 _ _ _
      | exact ih3 _ _ _ _
      | exact ih4 _ _ _ _ _
      | exact whirligigref01_Digits.mono _ _
      | exact LeO.none _
      | refine LeO.ite ?_ ?_
      | refine LeO.bind ?_ (fun _ => ?_)
    · intro y0 y1 y2 y3 y4
      unfold whirligigref01_Number.j4
      repeat' first
      | (with_reducible exact ih0 _ _ _)
      | (with_reducible exact ih1 _ _)
      | (with_reducible exact ih2 _ _ _)
      | (with_reducible exact ih3 _ _ _ _)
      | (with_reducible exact ih4 _ _ _ _ _)
      | (with_reducible exact whirligigref01_Digits.mono _ _)
      | (with_reducible exact LeO.refl _)
      | (with_reducible exact LeO.none _)
      | (with_reducible refine LeO.ite ?_ ?_)
      | (with_reducible refine LeO.bind ?_ (fun _ => ?_))
      | exact ih0 _ _ _
      | exact ih1 _ _
      | exact ih2 _ _ _
      | exact ih3 _ _ _ _
      | exact ih4 _ _ _ _ _
      | exact whirligigref01_Digits.mono _ _
      | exact LeO.none _
      | refine LeO.ite ?_ ?_
      | refine LeO.bind ?_ (fun _ => ?_)
theorem whirligigref01_Number.mono : ∀ a0 k, LeO (whirligigref01_Number.f k a0) (whirligigref01_Number.f (k + 1) a0) := by
  intro a0 k
  obtain ⟨ih0, ih1, ih2, ih3, ih4⟩ := whirligigref01_Number.mono_l k
  unfold whirligigref01_Number.f
  repeat' first
      | (with_reducible exact ih0 _ _ _)
      | (with_reducible exact ih1 _ _)
      | (with_reducible exact ih2 _ _ _)
      | (with_reducible exact ih3 _ _ _ _)
      | (with_reducible exact ih4 _ _ _ _ _)
      | (with_reducible exact whirligigref01_Digits.mono _ _)
      | (with_reducible exact LeO.refl _)
      | (with_reducible exact LeO.none _)
      | (with_reducible refine LeO.ite ?_ ?_)
      | (with_reducible refine LeO.bind ?_ (fun _ => ?_))
      | exact ih0 _ _ _
      | exact ih1 _ _
      | exact ih2 _ _ _
      | exact ih3 _ _ _ _
      | exact ih4 _ _ _ _ _
      | exact whirligigref01_Digits.mono _ _
      | exact LeO.none _
      | refine LeO.ite ?_ ?_
      | refine LeO.bind ?_ (fun _ => ?_)
end Go.Proofs.YtbngfhlciebeeaaDoor.L
