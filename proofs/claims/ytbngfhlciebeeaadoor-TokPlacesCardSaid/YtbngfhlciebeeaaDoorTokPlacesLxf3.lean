/- Printed and hand-written steps towards the row (TokPlaces), those that it reaches. -/
import Derived.Test.YtbngfhlciebeeaaDoorTokPlacesLx0
import Derived.Test.YtbngfhlciebeeaaDoorTokPlacesLxeq31
import Derived.Test.YtbngfhlciebeeaaDoorTokPlacesLxf19
import Derived.Test.YtbngfhlciebeeaaDoorTokPlacesLxf112
import Derived.Test.YtbngfhlciebeeaaDoorTokPlacesGLex
namespace Go.Proofs.YtbngfhlciebeeaaDoor.L
open Go.RowKit Go.Proofs.YtbngfhlciebeeaaDoorW.PrintWords Go.Proofs.YtbngfhlciebeeaaDoorW.PrintLast Go.Proofs.YtbngfhlciebeeaaDoorW.PrintMore
attribute [local go_sem] max2_int min2_int max_two min_two max_three min_three max_four min_four   -- for this text's walks alone
set_option linter.unusedVariables false
set_option linter.unusedSimpArgs false
attribute [local go_sem high] eqA31
mutual
def whirligiglaw02_TokLexes.j0 : Nat → List (S32) → List (S31) → Bool → Option (Bool)
  | 0, _, _, _ => none
  | k + 1, x3, x6, x41 => if x41 = true then (some false) else (whirligiglaw02_TokLexes.l0 k x3 x6 (x3.length : Int) 0)
def whirligiglaw02_TokLexes.l0 : Nat → List (S32) → List (S31) → Int → Int → Option (Bool)
  | 0, _, _, _, _ => none
  | k + 1, x3, x6, x43, x44 => if x44 < x43 then (if 0 ≤ x44 then (if x44 < (x3.length : Int) then (if x44 < (x6.length : Int) then (if (!(((rd_T32 x3 x44).f0) == ((rd_T31 x6 x44).f0)) || (!((((rd_T32 x3 x44).f1).toList) == (((rd_T31 x6 x44).f1).toList)) || (!(((rd_T32 x3 x44).f2) == ((rd_T31 x6 x44).f2)) || (!(((rd_T32 x3 x44).f3) == ((rd_T31 x6 x44).f3)))))) = true then (some false) else (whirligiglaw02_TokLexes.l0 k x3 x6 x43 (wrap64 (x44 + 1)))) else (none)) else (none)) else (none)) else (some true)
end
def whirligiglaw02_TokLexes.f (k : Nat) (a0 : ByteArray) : Option (Bool) := (whirligiglaw02_anchor.f k).bind fun t222 => (if t222 = true then (if (a0.size : Int) > 1000 then (some true) else ((tok_Lex.f k a0).bind fun bt223 => ((whirligigref02_Lex.f k a0).bind fun bt228 => (if bt223.2.1 = bt228.2.1 then (if bt223.2.2 = bt228.2.2 then (whirligiglaw02_TokLexes.j0 k bt223.1 bt228.1 ((bt223.1.length : Int) != (bt228.1.length : Int))) else (whirligiglaw02_TokLexes.j0 k bt223.1 bt228.1 true)) else (whirligiglaw02_TokLexes.j0 k bt223.1 bt228.1 true))))) else (some false))
theorem whirligiglaw02_TokLexes.mono_l : ∀ k, (∀ y0 y1 y2, LeO (whirligiglaw02_TokLexes.j0 k y0 y1 y2) (whirligiglaw02_TokLexes.j0 (k + 1) y0 y1 y2)) ∧ (∀ y0 y1 y2 y3, LeO (whirligiglaw02_TokLexes.l0 k y0 y1 y2 y3) (whirligiglaw02_TokLexes.l0 (k + 1) y0 y1 y2 y3))
  | 0 => ⟨fun _ _ _ r h => by simp [whirligiglaw02_TokLexes.j0] at h, fun _ _ _ _ r h => by simp [whirligiglaw02_TokLexes.l0] at h⟩
  | k + 1 => by
    obtain ⟨ih0, ih1⟩ := whirligiglaw02_TokLexes.mono_l k
    refine ⟨?_, ?_⟩
    · intro y0 y1 y2
      unfold whirligiglaw02_TokLexes.j0
      repeat' first
      | (with_reducible exact ih0 _ _ _)
      | (with_reducible exact ih1 _ _ _ _)
      | (with_reducible exact tok_Lex.mono _ _)
      | (with_reducible exact whirligiglaw02_anchor.mono _)
      | (with_reducible exact whirligigref02_Lex.mono _ _)
      | (with_reducible exact LeO.refl _)
      | (with_reducible exact LeO.none _)
      | (with_reducible refine LeO.ite ?_ ?_)
      | (with_reducible refine LeO.bind ?_ (fun _ => ?_))
      | exact ih0 _ _ _
      | exact ih1 _ _ _ _
      | exact tok_Lex.mono _ _
      | exact whirligiglaw02_anchor.mono _
      | exact whirligigref02_Lex.mono _ _
      | exact LeO.none _
      | refine LeO.ite ?_ ?_
      | refine LeO.bind ?_ (fun _ => ?_)
    · intro y0 y1 y2 y3
      unfold whirligiglaw02_TokLexes.l0
      repeat' first
      | (with_reducible exact ih0 _ _ _)
      | (with_reducible exact ih1 _ _ _ _)
      | (with_reducible exact tok_Lex.mono _ _)
      | (with_reducible exact whirligiglaw02_anchor.mono _)
      | (with_reducible exact whirligigref02_Lex.mono _ _)
      | (with_reducible exact LeO.refl _)
      | (with_reducible exact LeO.none _)
      | (with_reducible refine LeO.ite ?_ ?_)
      | (with_reducible refine LeO.bind ?_ (fun _ => ?_))
      | exact ih0 _ _ _
      | exact ih1 _ _ _ _
      | exact tok_Lex.mono _ _
      | exact whirligiglaw02_anchor.mono _
      | exact whirligigref02_Lex.mono _ _
      | exact LeO.none _
      | refine LeO.ite ?_ ?_
      | refine LeO.bind ?_ (fun _ => ?_)
theorem whirligiglaw02_TokLexes.mono : ∀ a0 k, LeO (whirligiglaw02_TokLexes.f k a0) (whirligiglaw02_TokLexes.f (k + 1) a0) := by
  intro a0 k
  obtain ⟨ih0, ih1⟩ := whirligiglaw02_TokLexes.mono_l k
  unfold whirligiglaw02_TokLexes.f
  repeat' first
      | (with_reducible exact ih0 _ _ _)
      | (with_reducible exact ih1 _ _ _ _)
      | (with_reducible exact tok_Lex.mono _ _)
      | (with_reducible exact whirligiglaw02_anchor.mono _)
      | (with_reducible exact whirligigref02_Lex.mono _ _)
      | (with_reducible exact LeO.refl _)
      | (with_reducible exact LeO.none _)
      | (with_reducible refine LeO.ite ?_ ?_)
      | (with_reducible refine LeO.bind ?_ (fun _ => ?_))
      | exact ih0 _ _ _
      | exact ih1 _ _ _ _
      | exact tok_Lex.mono _ _
      | exact whirligiglaw02_anchor.mono _
      | exact whirligigref02_Lex.mono _ _
      | exact LeO.none _
      | refine LeO.ite ?_ ?_
      | refine LeO.bind ?_ (fun _ => ?_)
def whirligiglaw02_blank.l0 : Nat → ByteArray → Int → Int → Option (Bool)
  | 0, _, _, _ => none
  | k + 1, x0, x5, x6 => if x6 < x5 then (if 0 ≤ x6 then (if x6 < (x0.size : Int) then (if (bt x0 x6) = 32 then (whirligiglaw02_blank.l0 k x0 x5 (wrap64 (x6 + 1))) else (some false)) else (none)) else (none)) else (some true)
def whirligiglaw02_blank.f (k : Nat) (a0 : ByteArray) : Option (Bool) := whirligiglaw02_blank.l0 k a0 (a0.size : Int) 0
theorem whirligiglaw02_blank.mono_l : ∀ k, (∀ y0 y1 y2, LeO (whirligiglaw02_blank.l0 k y0 y1 y2) (whirligiglaw02_blank.l0 (k + 1) y0 y1 y2))
  | 0 => fun _ _ _ r h => by simp [whirligiglaw02_blank.l0] at h
  | k + 1 => by
    have ih0 := whirligiglaw02_blank.mono_l k
    · intro y0 y1 y2
      unfold whirligiglaw02_blank.l0
      repeat' first
      | (with_reducible exact ih0 _ _ _)
      | (with_reducible exact LeO.refl _)
      | (with_reducible exact LeO.none _)
      | (with_reducible refine LeO.ite ?_ ?_)
      | (with_reducible refine LeO.bind ?_ (fun _ => ?_))
      | exact ih0 _ _ _
      | exact LeO.none _
      | refine LeO.ite ?_ ?_
      | refine LeO.bind ?_ (fun _ => ?_)
theorem whirligiglaw02_blank.mono : ∀ a0 k, LeO (whirligiglaw02_blank.f k a0) (whirligiglaw02_blank.f (k + 1) a0) := by
  intro a0 k
  have ih0 := whirligiglaw02_blank.mono_l k
  unfold whirligiglaw02_blank.f
  repeat' first
      | (with_reducible exact ih0 _ _ _)
      | (with_reducible exact LeO.refl _)
      | (with_reducible exact LeO.none _)
      | (with_reducible refine LeO.ite ?_ ?_)
      | (with_reducible refine LeO.bind ?_ (fun _ => ?_))
      | exact ih0 _ _ _
      | exact LeO.none _
      | refine LeO.ite ?_ ?_
      | refine LeO.bind ?_ (fun _ => ?_)
set_option maxHeartbeats 8000000 in
set_option maxRecDepth 100000 in
theorem whirligiglaw02_blank.calls (k : Nat) (a0 : ByteArray) (r : Bool) (w : World) (h : whirligiglaw02_blank.f k a0 = some r) :
    Calls Tryd.prog 22 #[.string a0] w fun e w' => e = .returned (.bool r) ∧ Drawn0 w w' := by
  have H : (whirligiglaw02_blank.l0 k a0 (a0.size : Int) 0) = some r := h
  clear h
  have H' := Aside0.mk H
  clear H
  go_enter Tryd.func22, Tryd.ntmps22
  go_wp2
  go_loopg [6] k (fun kq v6 w' => ∃ (x6_1 : Int), v6 = .int .i64 x6_1 ∧ Aside0 (whirligiglaw02_blank.l0 kq a0 (a0.size : Int) x6_1 = some r) ∧ Aside0 (kq ≤ k) ∧ Drawn0 w w')
  case atStart => exact ⟨(0), (by first | rfl | (simp; done) | (simp [*]; done)), H', ⟨Nat.le_refl _⟩, by repeat (first | exact Drawn0.refl _ | apply Drawn0.step)⟩
  case round =>
    clear H'
    obtain ⟨x6_1, rfl, HA, HK1, ⟨m1, rfl⟩⟩ := hrel
    cases gk with
    | zero => exact absurd HA.out (by simp [whirligiglaw02_blank.l0])
    | succ k1 =>
      have H := HA.out
      clear HA
      simp only [whirligiglaw02_blank.l0] at H
      by_cases c2 : x6_1 < (a0.size : Int)
      · rw [if_pos c2] at H
        have c2b0 : decide (x6_1 < (a0.size : Int)) = true := decide_eq_true c2
        clear c2
        by_cases c3 : 0 ≤ x6_1
        · rw [if_pos c3] at H
          have c3b0 : decide (0 ≤ x6_1) = true := decide_eq_true c3
          clear c3
          by_cases c4 : x6_1 < (a0.size : Int)
          · rw [if_pos c4] at H
            have c4b0 : decide (x6_1 < (a0.size : Int)) = true := decide_eq_true c4
            clear c4
            by_cases c6 : (bt a0 x6_1) = 32
            · rw [if_pos c6] at H
              have c6b0 : ((bt a0 x6_1) == 32) = true := beq_iff_eq.mpr c6
              have c6b1 : ((bt a0 x6_1) != 32) = false := bne_eq_false_iff_eq.mpr c6
              clear c6
              have H' := Aside0.mk H
              clear H
              have p5 : 0 ≤ (x6_1 : Int) := of_decide_eq_true (by first | (with_reducible assumption) | assumption)
              have q5 : x6_1 < (a0.size : Int) := of_decide_eq_true (by first | (with_reducible assumption) | assumption)
              have hx5 := bt_at a0 x6_1
              replace p5 := eq_true p5
              replace q5 := eq_true q5
              go_wp2
              go_roundg k1
              case measure => have := HK1.out; omega
              case rel => exact ⟨(wrap64 (x6_1 + 1)), (by first | rfl | (simp; done) | (simp [*]; done)), H', ⟨by have := HK1.out; omega⟩, by repeat (first | exact Drawn0.refl _ | apply Drawn0.step)⟩
            · rw [if_neg c6] at H
              have c6b0 : ((bt a0 x6_1) == 32) = false := beq_eq_false_iff_ne.mpr c6
              have c6b1 : ((bt a0 x6_1) != 32) = true := bne_iff_ne.mpr c6
              obtain rfl := Option.some.inj H
              have p5 : 0 ≤ (x6_1 : Int) := of_decide_eq_true (by first | (with_reducible assumption) | assumption)
              have q5 : x6_1 < (a0.size : Int) := of_decide_eq_true (by first | (with_reducible assumption) | assumption)
              have hx5 := bt_at a0 x6_1
              replace p5 := eq_true p5
              replace q5 := eq_true q5
              go_wp2
              go_ret
              exact ⟨by first | rfl | (simp; done) | (simp [*]; done), by repeat (first | exact Drawn0.refl _ | apply Drawn0.step)⟩
          · rw [if_neg c4] at H
            exact absurd H (by simp)
        · rw [if_neg c3] at H
          exact absurd H (by simp)
      · rw [if_neg c2] at H
        have c2b0 : decide (x6_1 < (a0.size : Int)) = false := decide_eq_false c2
        clear c2
        obtain rfl := Option.some.inj H
        go_wp2
        go_ret
        exact ⟨by first | rfl | (simp; done) | (simp [*]; done), by repeat (first | exact Drawn0.refl _ | apply Drawn0.step)⟩
end Go.Proofs.YtbngfhlciebeeaaDoor.L
