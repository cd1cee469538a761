/- Printed and hand-written steps towards the row (TreeRight), those that it reaches. -/
import Derived.Test.YtbngfhlciebeeaaDoorTreeRightLx0
import Derived.Test.YtbngfhlciebeeaaDoorTreeRightG7
import Derived.Test.YtbngfhlciebeeaaDoorTreeRightLxf19
import Derived.Test.YtbngfhlciebeeaaDoorTreeRightLxf112
import Derived.Test.YtbngfhlciebeeaaDoorTreeRightLxf5
import Derived.Test.YtbngfhlciebeeaaDoorTreeRightG20
import Derived.KernelRfl
section
namespace Go.Proofs.YtbngfhlciebeeaaDoor.L
open Go.RowKit Go.Proofs.YtbngfhlciebeeaaDoorW.PrintWords Go.Proofs.YtbngfhlciebeeaaDoorW.PrintLast Go.Proofs.YtbngfhlciebeeaaDoorW.PrintMore
attribute [local go_sem] max2_int min2_int max_two min_two max_three min_three max_four min_four   -- for this text's walks alone
set_option linter.unusedVariables false
set_option linter.unusedSimpArgs false
def whirligigref02_Means.l0 : Nat → ByteArray → ByteArray → Int → Option (Bool)
 | 0, _, _, _ => none
 | k + 1, x0, x3, x4 => if (wrap64 ((wrap64 (x4 + (x0.size : Int))) + 2)) ≤ (x3.size : Int) then (if 0 ≤ x4 then (if x4 ≤ (wrap64 ((wrap64 (x4 + (x0.size : Int))) + 2)) then (if 1 + x0.size ≤ 9223372036854775807 then (if (1 + x0.size) + 1 ≤ 9223372036854775807 then (if (x3.extract (x4 : Int).toNat ((wrap64 ((wrap64 (x4 + (x0.size : Int))) + 2)) : Int).toNat).toList = (((⟨#[32]⟩ : ByteArray) ++ x0) ++ (⟨#[32]⟩ : ByteArray)).toList then (if x0.toList = ([] : List UInt8) then (some false) else ((whirligigref02_word.f k x0 0).bind fun t276 => (some (t276 == (x0.size : Int))))) else (whirligigref02_Means.l0 k x0 x3 (wrap64 (x4 + 1)))) else (none)) else (none)) else (none)) else (none)) else (some false)
def whirligigref02_Means.f (k : Nat) (a0 : ByteArray) : Option (Bool) := whirligigref02_Means.l0 k a0 (⟨#[32, 99, 104, 97, 114, 116, 32, 118, 97, 114, 32, 115, 116, 97, 116, 101, 32, 112, 97, 114, 97, 108, 108, 101, 108, 32, 102, 105, 110, 97, 108, 32, 100, 101, 101, 112, 32, 115, 104, 97, 108, 108, 111, 119, 32, 101, 110, 116, 101, 114, 32, 101, 120, 105, 116, 32, 111, 110, 32, 97, 117, 116, 111, 32, 101, 110, 100, 32, 105, 102, 32, 103, 111, 32, 105, 110, 110, 101, 114, 32, 100, 111, 32, 115, 101, 116, 32, 114, 97, 105, 115, 101, 32, 115, 101, 110, 100, 32, 99, 97, 110, 99, 101, 108, 32, 108, 111, 103, 32, 116, 114, 117, 101, 32, 102, 97, 108, 115, 101, 32, 110, 111, 116, 32, 97, 110, 100, 32, 111, 114, 32, 105, 110, 32]⟩ : ByteArray) 0
theorem whirligigref02_Means.mono_l : ∀ k, (∀ y0 y1 y2, LeO (whirligigref02_Means.l0 k y0 y1 y2) (whirligigref02_Means.l0 (k + 1) y0 y1 y2))
 | 0 => fun _ _ _ r h => by simp [whirligigref02_Means.l0] at h
 | k + 1 => by
  have ih0 := whirligigref02_Means.mono_l k
  ·intro y0 y1 y2
   unfold whirligigref02_Means.l0
   repeat' first
   | (with_reducible exact ih0 _ _ _)
   | (with_reducible exact whirligigref02_word.mono _ _ _)
   | (with_reducible exact LeO.refl _)
   | (with_reducible exact LeO.none _)
   | (with_reducible refine LeO.ite ?_ ?_)
   | (with_reducible refine LeO.bind ?_ (fun _ => ?_))
   | exact ih0 _ _ _
   | exact whirligigref02_word.mono _ _ _
   | exact LeO.none _
   | refine LeO.ite ?_ ?_
   | refine LeO.bind ?_ (fun _ => ?_)
theorem whirligigref02_Means.mono : ∀ a0 k, LeO (whirligigref02_Means.f k a0) (whirligigref02_Means.f (k + 1) a0) := by
 intro a0 k
 have ih0 := whirligigref02_Means.mono_l k
 unfold whirligigref02_Means.f
 repeat' first
   | (with_reducible exact ih0 _ _ _)
   | (with_reducible exact whirligigref02_word.mono _ _ _)
   | (with_reducible exact LeO.refl _)
   | (with_reducible exact LeO.none _)
   | (with_reducible refine LeO.ite ?_ ?_)
   | (with_reducible refine LeO.bind ?_ (fun _ => ?_))
   | exact ih0 _ _ _
   | exact whirligigref02_word.mono _ _ _
   | exact LeO.none _
   | refine LeO.ite ?_ ?_
   | refine LeO.bind ?_ (fun _ => ?_)
set_option maxHeartbeats 8000000 in
set_option maxRecDepth 100000 in
theorem whirligigref02_Means.calls (k : Nat) (a0 : ByteArray) (r : Bool) (w : World) (h : whirligigref02_Means.f k a0 = some r) :
  Calls Tryd.prog 29 #[.string a0] w fun e w' => e = .returned (.bool r) ∧ Drawn0 w w' := by
 have H : (whirligigref02_Means.l0 k a0 (⟨#[32, 99, 104, 97, 114, 116, 32, 118, 97, 114, 32, 115, 116, 97, 116, 101, 32, 112, 97, 114, 97, 108, 108, 101, 108, 32, 102, 105, 110, 97, 108, 32, 100, 101, 101, 112, 32, 115, 104, 97, 108, 108, 111, 119, 32, 101, 110, 116, 101, 114, 32, 101, 120, 105, 116, 32, 111, 110, 32, 97, 117, 116, 111, 32, 101, 110, 100, 32, 105, 102, 32, 103, 111, 32, 105, 110, 110, 101, 114, 32, 100, 111, 32, 115, 101, 116, 32, 114, 97, 105, 115, 101, 32, 115, 101, 110, 100, 32, 99, 97, 110, 99, 101, 108, 32, 108, 111, 103, 32, 116, 114, 117, 101, 32, 102, 97, 108, 115, 101, 32, 110, 111, 116, 32, 97, 110, 100, 32, 111, 114, 32, 105, 110, 32]⟩ : ByteArray) 0) = some r := h
 clear h
 have H' := Aside0.mk H
 clear H
 go_enter Tryd.func29, Tryd.ntmps29
 go_wp2
 go_loopg [4] k (fun kq v4 w' => ∃ (x4_1 : Int), v4 = .int .i64 x4_1 ∧ Aside0 (whirligigref02_Means.l0 kq a0 (⟨#[32, 99, 104, 97, 114, 116, 32, 118, 97, 114, 32, 115, 116, 97, 116, 101, 32, 112, 97, 114, 97, 108, 108, 101, 108, 32, 102, 105, 110, 97, 108, 32, 100, 101, 101, 112, 32, 115, 104, 97, 108, 108, 111, 119, 32, 101, 110, 116, 101, 114, 32, 101, 120, 105, 116, 32, 111, 110, 32, 97, 117, 116, 111, 32, 101, 110, 100, 32, 105, 102, 32, 103, 111, 32, 105, 110, 110, 101, 114, 32, 100, 111, 32, 115, 101, 116, 32, 114, 97, 105, 115, 101, 32, 115, 101, 110, 100, 32, 99, 97, 110, 99, 101, 108, 32, 108, 111, 103, 32, 116, 114, 117, 101, 32, 102, 97, 108, 115, 101, 32, 110, 111, 116, 32, 97, 110, 100, 32, 111, 114, 32, 105, 110, 32]⟩ : ByteArray) x4_1 = some r) ∧ Aside0 (kq ≤ k) ∧ Drawn0 w w')
 case atStart => exact ⟨(0), (by first | rfl | (simp; done) | (simp [*]; done)), H', ⟨Nat.le_refl _⟩, by repeat (first | exact Drawn0.refl _ | apply Drawn0.step)⟩
 case round =>
  clear H'
  obtain ⟨x4_1, rfl, HA, HK1, ⟨m1, rfl⟩⟩ := hrel
  cases gk with
  | zero => exact absurd HA.out (by simp [whirligigref02_Means.l0])
  | succ k1 =>
   have H := HA.out
   clear HA
   simp only [whirligigref02_Means.l0] at H
   by_cases c2 : (wrap64 ((wrap64 (x4_1 + (a0.size : Int))) + 2)) ≤ ((⟨#[32, 99, 104, 97, 114, 116, 32, 118, 97, 114, 32, 115, 116, 97, 116, 101, 32, 112, 97, 114, 97, 108, 108, 101, 108, 32, 102, 105, 110, 97, 108, 32, 100, 101, 101, 112, 32, 115, 104, 97, 108, 108, 111, 119, 32, 101, 110, 116, 101, 114, 32, 101, 120, 105, 116, 32, 111, 110, 32, 97, 117, 116, 111, 32, 101, 110, 100, 32, 105, 102, 32, 103, 111, 32, 105, 110, 110, 101, 114, 32, 100, 111, 32, 115, 101, 116, 32, 114, 97, 105, 115, 101, 32, 115, 101, 110, 100, 32, 99, 97, 110, 99, 101, 108, 32, 108, 111, 103, 32, 116, 114, 117, 101, 32, 102, 97, 108, 115, 101, 32, 110, 111, 116, 32, 97, 110, 100, 32, 111, 114, 32, 105, 110, 32]⟩ : ByteArray).size : Int)
   ·rw [if_pos c2] at H
    have c2b0 := decide_eq_true c2
    have c2b0z : decide ((wrap64 ((wrap64 (x4_1 + (a0.size : Int))) + 2)) ≤ 134) = true := c2b0
    clear c2
    by_cases c3 : 0 ≤ x4_1
    ·rw [if_pos c3] at H
     have c3b0 := eq_true c3
     have c3b1 := decide_eq_true c3
     clear c3
     by_cases c4 : x4_1 ≤ (wrap64 ((wrap64 (x4_1 + (a0.size : Int))) + 2))
     ·rw [if_pos c4] at H
      have c4b0 := eq_true c4
      have c4b1 := decide_eq_true c4
      have c5b0 := eq_true (qD : (wrap64 ((wrap64 (x4_1 + (a0.size : Int))) + 2)) ≤ ((⟨#[32, 99, 104, 97, 114, 116, 32, 118, 97, 114, 32, 115, 116, 97, 116, 101, 32, 112, 97, 114, 97, 108, 108, 101, 108, 32, 102, 105, 110, 97, 108, 32, 100, 101, 101, 112, 32, 115, 104, 97, 108, 108, 111, 119, 32, 101, 110, 116, 101, 114, 32, 101, 120, 105, 116, 32, 111, 110, 32, 97, 117, 116, 111, 32, 101, 110, 100, 32, 105, 102, 32, 103, 111, 32, 105, 110, 110, 101, 114, 32, 100, 111, 32, 115, 101, 116, 32, 114, 97, 105, 115, 101, 32, 115, 101, 110, 100, 32, 99, 97, 110, 99, 101, 108, 32, 108, 111, 103, 32, 116, 114, 117, 101, 32, 102, 97, 108, 115, 101, 32, 110, 111, 116, 32, 97, 110, 100, 32, 111, 114, 32, 105, 110, 32]⟩ : ByteArray).size : Int))
      have c5b0z : ((wrap64 ((wrap64 (x4_1 + (a0.size : Int))) + 2)) ≤ (134 : Int)) = True := c5b0
      by_cases c6 : 1 + a0.size ≤ 9223372036854775807
      ·rw [if_pos c6] at H
       have c6b0 := eq_true c6
       have c6b1 := decide_eq_true c6
       try have c6b2 : (9223372036854775807 < 1 + a0.size) = False := eq_false (Nat.not_lt.2 c6)
       by_cases c7 : (1 + a0.size) + 1 ≤ 9223372036854775807
       ·rw [if_pos c7] at H
        have c7b0 := eq_true c7
        have c7b1 := decide_eq_true c7
        try have c7b2 : (9223372036854775807 < (1 + a0.size) + 1) = False := eq_false (Nat.not_lt.2 c7)
        by_cases c8 : ((⟨#[32, 99, 104, 97, 114, 116, 32, 118, 97, 114, 32, 115, 116, 97, 116, 101, 32, 112, 97, 114, 97, 108, 108, 101, 108, 32, 102, 105, 110, 97, 108, 32, 100, 101, 101, 112, 32, 115, 104, 97, 108, 108, 111, 119, 32, 101, 110, 116, 101, 114, 32, 101, 120, 105, 116, 32, 111, 110, 32, 97, 117, 116, 111, 32, 101, 110, 100, 32, 105, 102, 32, 103, 111, 32, 105, 110, 110, 101, 114, 32, 100, 111, 32, 115, 101, 116, 32, 114, 97, 105, 115, 101, 32, 115, 101, 110, 100, 32, 99, 97, 110, 99, 101, 108, 32, 108, 111, 103, 32, 116, 114, 117, 101, 32, 102, 97, 108, 115, 101, 32, 110, 111, 116, 32, 97, 110, 100, 32, 111, 114, 32, 105, 110, 32]⟩ : ByteArray).extract (x4_1 : Int).toNat ((wrap64 ((wrap64 (x4_1 + (a0.size : Int))) + 2)) : Int).toNat).toList = (((⟨#[32]⟩ : ByteArray) ++ a0) ++ (⟨#[32]⟩ : ByteArray)).toList
        ·rw [if_pos c8] at H
         have c8b0 := beq_iff_eq.mpr c8
         have c8b1 := bne_eq_false_iff_eq.mpr c8
         clear c8
         by_cases c9 : a0.toList = ([] : List UInt8)
         ·rw [if_pos c9] at H
          have c9b0 := beq_iff_eq.mpr c9
          have c9b1 := bne_eq_false_iff_eq.mpr c9
          clear c9
          obtain rfl := Option.some.inj H
          go_wp2
          go_ret
          exact ⟨by first | rfl | (simp; done) | (simp [*]; done), by repeat (first | exact Drawn0.refl _ | apply Drawn0.step)⟩
         ·rw [if_neg c9] at H
          have c9b0 := beq_eq_false_iff_ne.mpr c9
          have c9b1 := bne_iff_ne.mpr c9
          replace H := Option.bind_eq_some_iff.mp H
          obtain ⟨t276, A100, H⟩ := H
          (try dsimp -simprocs only at H)
          have A10 := Aside0.mk A100
          clear A100
          obtain rfl := Option.some.inj H
          go_wp2_with (first | (go_at_call 71; (with_reducible refine (whirligigref02_word.calls k1 a0 0 t276 _ A10.out).mono ?_); rintro e w' ⟨rfl, ⟨nd, rfl⟩⟩))
          go_ret
          exact ⟨by first | rfl | (simp; done) | (simp [*]; done), by repeat (first | exact Drawn0.refl _ | apply Drawn0.step)⟩
        ·rw [if_neg c8] at H
         have c8b0 := beq_eq_false_iff_ne.mpr c8
         have c8b1 := bne_iff_ne.mpr c8
         have H' := Aside0.mk H
         clear H
         go_wp2
         go_roundg k1
         case measure => have := HK1.out; omega
         case rel => exact ⟨(wrap64 (x4_1 + 1)), (by first | rfl | (simp; done) | (simp [*]; done)), H', ⟨by have := HK1.out; omega⟩, by repeat (first | exact Drawn0.refl _ | apply Drawn0.step)⟩
       ·rw [if_neg c7] at H
        exact absurd H (by simp)
      ·rw [if_neg c6] at H
       exact absurd H (by simp)
     ·rw [if_neg c4] at H
      exact absurd H (by simp)
    ·rw [if_neg c3] at H
     exact absurd H (by simp)
   ·rw [if_neg c2] at H
    have c2b0 := decide_eq_false c2
    have c2b0z : decide ((wrap64 ((wrap64 (x4_1 + (a0.size : Int))) + 2)) ≤ 134) = false := c2b0
    clear c2
    obtain rfl := Option.some.inj H
    go_wp2
    go_ret
    exact ⟨by first | rfl | (simp; done) | (simp [*]; done), by repeat (first | exact Drawn0.refl _ | apply Drawn0.step)⟩
def whirligigref02_Name.f (k : Nat) (a0 : ByteArray) : Option (Bool) := (whirligigref02_Lex.f k a0).bind fun bt277 => (if bt277.2.1 = 0 then (if (bt277.1.length : Int) = 1 then (if 0 < (bt277.1.length : Int) then (if ((rd_T31 bt277.1 0).f0) = 1 then (if ((rd_T31 bt277.1 0).f1).toList = a0.toList then ((whirligigref02_Means.f k a0).bind fun t284 => (some (!t284))) else (some false)) else (some false)) else (none)) else (some false)) else (some false))
theorem whirligigref02_Name.mono : ∀ a0 k, LeO (whirligigref02_Name.f k a0) (whirligigref02_Name.f (k + 1) a0) := by
 intro a0 k
 unfold whirligigref02_Name.f
 repeat' first
   | (with_reducible exact whirligigref02_Lex.mono _ _)
   | (with_reducible exact whirligigref02_Means.mono _ _)
   | (with_reducible exact LeO.refl _)
   | (with_reducible exact LeO.none _)
   | (with_reducible refine LeO.ite ?_ ?_)
   | (with_reducible refine LeO.bind ?_ (fun _ => ?_))
   | exact whirligigref02_Lex.mono _ _
   | exact whirligigref02_Means.mono _ _
   | exact LeO.none _
   | refine LeO.ite ?_ ?_
   | refine LeO.bind ?_ (fun _ => ?_)
def whirligiglaw02_TokNames.f (k : Nat) (a0 : ByteArray) : Option (Bool) := (whirligiglaw02_anchor.f k).bind fun t285 => (if t285 = true then (if (a0.size : Int) > 1000 then (some true) else ((tok_Event.f k a0).bind fun t286 => ((whirligigref02_Event.f k a0).bind fun t287 => (if (t286 == t287) = true then ((tok_Name.f k a0).bind fun t288 => ((whirligigref02_Name.f k a0).bind fun t289 => (if (t288 == t289) = true then ((tok_Means.f a0).bind fun t290 => ((whirligigref02_Means.f k a0).bind fun t291 => (if (t290 == t291) = true then ((tok_Name.f k a0).bind fun t292 => (if t292 = true then ((tok_Event.f k a0).bind fun t293 => (some t293)) else (some true))) else (some false)))) else (some false)))) else (some false))))) else (some false))
theorem whirligiglaw02_TokNames.mono : ∀ a0 k, LeO (whirligiglaw02_TokNames.f k a0) (whirligiglaw02_TokNames.f (k + 1) a0) := by
 intro a0 k
 unfold whirligiglaw02_TokNames.f
 repeat' first
   | (with_reducible exact tok_Event.mono _ _)
   | (with_reducible exact tok_Name.mono _ _)
   | (with_reducible exact whirligiglaw02_anchor.mono _)
   | (with_reducible exact whirligigref02_Event.mono _ _)
   | (with_reducible exact whirligigref02_Means.mono _ _)
   | (with_reducible exact whirligigref02_Name.mono _ _)
   | (with_reducible exact LeO.refl _)
   | (with_reducible exact LeO.none _)
   | (with_reducible refine LeO.ite ?_ ?_)
   | (with_reducible refine LeO.bind ?_ (fun _ => ?_))
   | exact tok_Event.mono _ _
   | exact tok_Name.mono _ _
   | exact whirligiglaw02_anchor.mono _
   | exact whirligigref02_Event.mono _ _
   | exact whirligigref02_Means.mono _ _
   | exact whirligigref02_Name.mono _ _
   | exact LeO.none _
   | refine LeO.ite ?_ ?_
   | refine LeO.bind ?_ (fun _ => ?_)
end Go.Proofs.YtbngfhlciebeeaaDoor.L
end
section
namespace Go.Proofs.YtbngfhlciebeeaaDoor.Sp
set_option linter.unusedVariables false
set_option linter.unusedSimpArgs false
open Go.RowKit Go.Proofs.YtbngfhlciebeeaaDoor.L Go.Proofs.YtbngfhlciebeeaaDoorW.PrintWords
def meanWords : List (List UInt8) := [[99, 104, 97, 114, 116], [118, 97, 114], [115, 116, 97, 116, 101], [112, 97, 114, 97, 108, 108, 101, 108], [102, 105, 110, 97, 108], [100, 101, 101, 112], [115, 104, 97, 108, 108, 111, 119], [101, 110, 116, 101, 114], [101, 120, 105, 116], [111, 110], [97, 117, 116, 111], [101, 110, 100], [105, 102], [103, 111], [105, 110, 110, 101, 114], [100, 111], [115, 101, 116], [114, 97, 105, 115, 101], [115, 101, 110, 100], [99, 97, 110, 99, 101, 108], [108, 111, 103], [116, 114, 117, 101], [102, 97, 108, 115, 101], [110, 111, 116], [97, 110, 100], [111, 114], [105, 110]]
def meanList : List UInt8 := [32, 99, 104, 97, 114, 116, 32, 118, 97, 114, 32, 115, 116, 97, 116, 101, 32, 112, 97, 114, 97, 108, 108, 101, 108, 32, 102, 105, 110, 97, 108, 32, 100, 101, 101, 112, 32, 115, 104, 97, 108, 108, 111, 119, 32, 101, 110, 116, 101, 114, 32, 101, 120, 105, 116, 32, 111, 110, 32, 97, 117, 116, 111, 32, 101, 110, 100, 32, 105, 102, 32, 103, 111, 32, 105, 110, 110, 101, 114, 32, 100, 111, 32, 115, 101, 116, 32, 114, 97, 105, 115, 101, 32, 115, 101, 110, 100, 32, 99, 97, 110, 99, 101, 108, 32, 108, 111, 103, 32, 116, 114, 117, 101, 32, 102, 97, 108, 115, 101, 32, 110, 111, 116, 32, 97, 110, 100, 32, 111, 114, 32, 105, 110, 32]
def meanAll : ByteArray := ⟨#[32, 99, 104, 97, 114, 116, 32, 118, 97, 114, 32, 115, 116, 97, 116, 101, 32, 112, 97, 114, 97, 108, 108, 101, 108, 32, 102, 105, 110, 97, 108, 32, 100, 101, 101, 112, 32, 115, 104, 97, 108, 108, 111, 119, 32, 101, 110, 116, 101, 114, 32, 101, 120, 105, 116, 32, 111, 110, 32, 97, 117, 116, 111, 32, 101, 110, 100, 32, 105, 102, 32, 103, 111, 32, 105, 110, 110, 101, 114, 32, 100, 111, 32, 115, 101, 116, 32, 114, 97, 105, 115, 101, 32, 115, 101, 110, 100, 32, 99, 97, 110, 99, 101, 108, 32, 108, 111, 103, 32, 116, 114, 117, 101, 32, 102, 97, 108, 115, 101, 32, 110, 111, 116, 32, 97, 110, 100, 32, 111, 114, 32, 105, 110, 32]⟩
theorem meanAll_list : meanAll.data.toList = meanList := rfl
set_option maxRecDepth 100000 in
theorem meanAll_size : meanAll.size = 134 := rfl
set_option maxRecDepth 100000 in
theorem meanList_len : meanList.length = 134 := rfl
def hitAt (s : List UInt8) (j : Nat) : Bool := decide (j + s.length + 2 ≤ 134) && (cut meanList j (j + s.length + 2) == 32 :: s ++ [32])
theorem words_hit : meanWords.all (fun s => (List.range 134).any (hitAt s)) = true := by kernel_rfl
theorem words_inner : meanWords.all (fun s => s.all innerB && !s.isEmpty) = true := by kernel_rfl
theorem hits_words : ((List.range 134).all fun i => (List.range 134).all fun n => !(decide (i + n + 2 ≤ 134) && (meanList.getD i 0 == 32) && (meanList.getD (i + n + 1) 0 == 32)) ||
    ((cut meanList (i + 1) (i + 1 + n)).isEmpty || !((cut meanList (i + 1) (i + 1 + n)).all innerB) || meanWords.contains (cut meanList (i + 1) (i + 1 + n)))) = true := by kernel_rfl
theorem hit_word {s : List UInt8} {j : Nat} (h : hitAt s j = true) (h0 : s ≠ []) (h1 : s.all innerB = true) : s ∈ meanWords := by
  unfold hitAt at h
  simp only [Bool.and_eq_true, decide_eq_true_eq, beq_iff_eq] at h
  obtain ⟨h2, h3⟩ := h
  have hl := meanList_len
  have ht := List.all_eq_true.1 (List.all_eq_true.1 hits_words j (List.mem_range.2 (by omega))) s.length (List.mem_range.2 (by omega))
  have e1 : cut meanList j (j + s.length + 2) = [meanList.getD j 0] ++ (cut meanList (j + 1) (j + 1 + s.length) ++ [meanList.getD (j + s.length + 1) 0]) := by
    rw [← cut_append (show j ≤ j + 1 by omega) (show j + 1 ≤ j + s.length + 2 by omega), ← cut_append (show j + 1 ≤ j + 1 + s.length by omega) (show j + 1 + s.length ≤ j + s.length + 2 by omega), cut_one (by omega),
      show j + 1 + s.length = j + s.length + 1 from by omega, cut_one (by omega)]
  rw [e1] at h3
  have e2 := List.cons.inj (show meanList.getD j 0 :: (cut meanList (j + 1) (j + 1 + s.length) ++ [meanList.getD (j + s.length + 1) 0]) = 32 :: (s ++ [32]) from h3)
  have e3 := List.append_inj e2.2 (by rw [cut_length (by omega)]; omega)
  have e4 := (List.cons.inj e3.2).1
  rw [e3.1, e2.1, e4, decide_eq_true h2, h1] at ht
  cases s with
  | nil => exact absurd rfl h0
  | cons c s => simpa using ht
theorem if_mem {x w : List UInt8} {ws : List (List UInt8)} {r : Option Bool} (h : r = some (decide (x ∈ ws))) : (if x = w then some true else r) = some (decide (x ∈ w :: ws)) := by
  by_cases hx : x = w
  · rw [if_pos hx, decide_eq_true (by rw [hx]; exact List.mem_cons_self)]
  · rw [if_neg hx, h]
    simp [hx]
theorem tMeans_eq (s : ByteArray) : tok_Means.f s = some (decide (s.data.toList ∈ meanWords)) := by
  have key : ∀ x : List UInt8, s.toList = x → tok_Means.f s = some (decide (x ∈ meanWords)) := fun x hx => by
    unfold tok_Means.f meanWords
    rw [hx]
    repeat' first
      | exact rfl
      | refine if_mem ?_
  exact key _ (ByteArray.toList_eq s)
theorem takeWhile_all {p : UInt8 → Bool} : ∀ (L : List UInt8), L.all p = true → L.takeWhile p = L
  | [], _ => rfl
  | c :: L, h => by
    simp only [List.all_cons, Bool.and_eq_true] at h
    rw [List.takeWhile_cons_of_pos h.1, takeWhile_all L h.2]
theorem pend_all {p : UInt8 → Bool} (L : List UInt8) : pend p L 0 = L.length ↔ L.all p = true := by
  unfold pend
  rw [List.drop_zero, Nat.zero_add]
  constructor
  · intro h
    rw [← (List.takeWhile_prefix p).eq_of_length h]
    exact List.all_takeWhile
  · intro h
    rw [takeWhile_all L h]
theorem rMeans_l (s : ByteArray) (hs : s.size ≤ 1000000) (d : Nat) : ∀ i, 200 - i = d → i ≤ 140 → (∀ j, j < i → hitAt s.data.toList j = false) →
    Ev (fun k => whirligigref02_Means.l0 k s meanAll (i : Int)) (decide (s.data.toList ∈ meanWords)) := by
  have hl := len_size s
  have hms := meanAll_size
  induction d with
  | zero => intro i h0 h1; omega
  | succ d ih =>
    intro i hd hi hno
    refine Ev.succ ?_
    simp only [whirligigref02_Means.l0]
    rw [wrap_at (x := (i : Int) + (s.size : Int)) (by omega) (by omega), wrap_at (x := (i : Int) + (s.size : Int) + 2) (by omega) (by omega), wrap_at (x := (i : Int) + 1) (by omega) (by omega)]
    by_cases hc : i + s.size + 2 ≤ 134
    · refine Ev.pos (by omega) (Ev.pos (by omega) (Ev.pos (by omega) (Ev.pos (by omega) (Ev.pos (by omega) ?_))))
      have hext : meanAll.extract (i : Int).toNat ((i : Int) + (s.size : Int) + 2).toNat = ⟨(cut meanList i (i + s.data.toList.length + 2)).toArray⟩ := by
        rw [show ((i : Int) + (s.size : Int) + 2).toNat = i + s.data.toList.length + 2 from by omega, Int.toNat_natCast, ext_list, meanAll_list]
      have hcat : ((⟨#[32]⟩ : ByteArray) ++ s) ++ (⟨#[32]⟩ : ByteArray) = ⟨(32 :: s.data.toList ++ [32]).toArray⟩ := by
        have e : s = ⟨s.data.toList.toArray⟩ := by simp
        rw [e]
        show ((⟨([32] : List UInt8).toArray⟩ : ByteArray) ++ _) ++ ⟨([32] : List UInt8).toArray⟩ = _
        rw [mk_append, mk_append]
        simp
      by_cases hm : cut meanList i (i + s.data.toList.length + 2) = 32 :: s.data.toList ++ [32]
      · have hit : hitAt s.data.toList i = true := by
          unfold hitAt
          rw [hm, beq_self_eq_true, decide_eq_true (by omega)]; rfl
        refine Ev.pos ?_ ?_
        · rw [hext, hcat, hm]
        · by_cases h0 : s.data.toList = []
          · refine Ev.pos (by rw [ByteArray.toList_eq]; exact h0) (Ev.some ?_)
            rw [h0]; rfl
          · refine Ev.neg (by rw [ByteArray.toList_eq]; exact h0) (Ev.bind (rword_ev s (by omega) 0 (by omega)) (Ev.some ?_))
            rw [Nat.sub_zero]
            by_cases h1 : s.data.toList.all innerB = true
            · have h2 := (pend_all (p := innerB) s.data.toList).2 h1
              rw [decide_eq_true (hit_word hit h0 h1), h2, hl, beq_self_eq_true]
            · have h2 : pend innerB s.data.toList 0 ≠ s.data.toList.length := fun e => h1 ((pend_all _).1 e)
              have h3 : s.data.toList ∉ meanWords := fun hm2 => by
                have := List.all_eq_true.1 words_inner _ hm2
                simp only [Bool.and_eq_true] at this
                exact h1 this.1
              rw [decide_eq_false h3, beq_eq_false_iff_ne]
              omega
      · have hmiss : hitAt s.data.toList i = false := by
          unfold hitAt
          rw [beq_eq_false_iff_ne.2 hm, Bool.and_false]
        refine Ev.neg ?_ ?_
        · rw [hext, hcat, ByteArray.toList_eq, ByteArray.toList_eq]
          exact hm
        · exact ih (i + 1) (by omega) (by omega) (fun j hj => by
            by_cases h : j = i
            · subst h; exact hmiss
            · exact hno j (by omega))
    · refine Ev.neg (by omega) (Ev.some ?_)
      symm
      refine decide_eq_false fun hm => ?_
      obtain ⟨j, hj, hh⟩ := List.any_eq_true.1 (List.all_eq_true.1 words_hit _ hm)
      have hji : ¬ j < i := fun h => by rw [hno j h] at hh; cases hh
      unfold hitAt at hh
      simp only [Bool.and_eq_true, decide_eq_true_eq] at hh
      omega
theorem rMeans_ev (s : ByteArray) (hs : s.size ≤ 1000000) : Ev (fun k => whirligigref02_Means.f k s) (decide (s.data.toList ∈ meanWords)) := by
  unfold whirligigref02_Means.f
  exact rMeans_l s hs _ 0 rfl (by omega) (fun j hj => absurd hj (by omega))
theorem tokenAt_kind {L : List UInt8} {i : Nat} {k : Int} {t : List UInt8} {n : Int} {e : Nat} (h : tokenAt L i = .ok (k, t, n, e)) : 1 ≤ k := by
  have hp : ∀ (f e : Nat) (k k' : Int) (e' : Nat), 1 ≤ k → pathGo L f e k = some (k', e') → 1 ≤ k' := by
    intro f
    induction f with
    | zero => intro e k k' e' _ h; simp [pathGo] at h
    | succ f ih =>
      intro e k k' e' hk h
      unfold pathGo at h
      split at h
      · split at h
        · cases h
        · exact ih _ 2 k' e' (by omega) h
      · simp only [Option.some.injEq, Prod.mk.injEq] at h
        omega
  unfold tokenAt at h
  repeat' split at h
  all_goals first
    | (cases h; done)
    | (rename_i hp2 _; have := hp _ _ _ _ _ (by omega) hp2; simp only [Except.ok.injEq, Prod.mk.injEq] at h; omega)
    | (simp only [Except.ok.injEq, Prod.mk.injEq] at h; omega)
theorem lexGo_kind (L : List UInt8) : ∀ (f i : Nat) (out : List Tk), (∀ t ∈ out, 1 ≤ t.kind) → ∀ t ∈ (lexGo L f i out).1, 1 ≤ t.kind
  | 0, i, out, ho => by simp [lexGo]
  | f + 1, i, out, ho => by
    simp only [lexGo]
    split
    · exact ho
    · split
      · simp
      · cases ht : tokenAt L (pend blankB L i) with
        | error e => simp
        | ok x =>
          obtain ⟨k, t, n, e⟩ := x
          dsimp only
          refine lexGo_kind L f e _ (fun t' h => ?_)
          rcases List.mem_append.1 h with h | h
          · exact ho _ h
          · rw [List.mem_singleton.1 h]
            exact tokenAt_kind ht
theorem lex_kind (L : List UInt8) : ∀ t ∈ (lex L).1, 1 ≤ t.kind := lexGo_kind L _ _ _ (by simp)
def eventT (s : ByteArray) : Bool := match lex s.data.toList with
  | ([t], e, _) => decide (e = 0) && decide (t.kind < 3) && decide (t.text = s.data.toList)
  | _ => false
theorem text_eq (t : List UInt8) (s : ByteArray) : ((⟨t.toArray⟩ : ByteArray).toList == s.toList) = decide (t = s.data.toList) := by
  rw [ByteArray.toList_eq, ByteArray.toList_eq]
  by_cases h : t = s.data.toList
  · rw [decide_eq_true h]; simp [h]
  · rw [decide_eq_false h]; simp [h]
theorem Event_ev (s : ByteArray) (hs : s.size ≤ 1000000) : Ev (fun k => tok_Event.f k s) (eventT s) := by
  unfold tok_Event.f eventT
  have hk := lex_kind s.data.toList
  refine Ev.bind (Lex_ev s (by omega)) ?_
  generalize lex s.data.toList = x at *
  obtain ⟨ts, e, p⟩ := x
  dsimp only at hk ⊢
  by_cases he : e = 0
  · refine Ev.pos he ?_
    rcases ts with _ | ⟨t, _ | ⟨t2, ts⟩⟩
    · exact Ev.neg (by simp) (Ev.some rfl)
    · have h1 := hk t (by simp)
      refine Ev.pos (by simp) (Ev.pos (by simp) ?_)
      rw [show rd_T32 (List.map Tk.s32 [t]) 0 = t.s32 from rfl]
      have hx := text_eq t.text s
      by_cases hk1 : t.kind = 1
      · refine Ev.pos hk1 (Ev.some ?_)
        dsimp only
        rw [decide_eq_true he, decide_eq_true (by omega)]
        exact hx
      · refine Ev.neg hk1 ?_
        by_cases hk2 : t.kind = 2
        · refine Ev.pos hk2 (Ev.some ?_)
          dsimp only
          rw [decide_eq_true he, decide_eq_true (by omega)]
          exact hx
        · refine Ev.neg hk2 (Ev.some ?_)
          dsimp only
          rw [decide_eq_false (show ¬ t.kind < 3 by omega)]
          simp
    · exact Ev.neg (by simp; omega) (Ev.some rfl)
  · refine Ev.neg he (Ev.some ?_)
    rcases ts with _ | ⟨t, _ | ⟨t2, ts⟩⟩
    · rfl
    · dsimp only; rw [decide_eq_false he]; rfl
    · rfl
theorem rEvent_ev (s : ByteArray) (hs : s.size ≤ 1000000) : Ev (fun k => whirligigref02_Event.f k s) (eventT s) := by
  unfold whirligigref02_Event.f eventT
  refine Ev.bind (rLex_ev s (by omega)) ?_
  generalize lex s.data.toList = x at *
  obtain ⟨ts, e, p⟩ := x
  dsimp only
  by_cases he : e = 0
  · refine Ev.pos he ?_
    rcases ts with _ | ⟨t, _ | ⟨t2, ts⟩⟩
    · exact Ev.neg (by simp) (Ev.some rfl)
    · refine Ev.pos (by simp) (Ev.pos (by simp) ?_)
      rw [show rd_T31 (List.map Tk.s31 [t]) 0 = t.s31 from rfl]
      have hx := text_eq t.text s
      by_cases hk1 : t.kind < 3
      · refine Ev.pos hk1 (Ev.some ?_)
        dsimp only
        rw [decide_eq_true he, decide_eq_true hk1]
        exact hx
      · refine Ev.neg hk1 (Ev.some ?_)
        dsimp only
        rw [decide_eq_false hk1]
        simp
    · exact Ev.neg (by simp; omega) (Ev.some rfl)
  · refine Ev.neg he (Ev.some ?_)
    rcases ts with _ | ⟨t, _ | ⟨t2, ts⟩⟩
    · rfl
    · dsimp only; rw [decide_eq_false he]; rfl
    · rfl
end Go.Proofs.YtbngfhlciebeeaaDoor.Sp
end
