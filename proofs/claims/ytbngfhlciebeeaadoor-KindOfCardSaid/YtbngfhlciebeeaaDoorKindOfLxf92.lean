/- Printed and hand-written steps towards the row (KindOf), those that it reaches. -/
import Derived.Test.YtbngfhlciebeeaaDoorKindOfG4
import Derived.Test.YtbngfhlciebeeaaDoorKindOfG5
namespace Go.Proofs.YtbngfhlciebeeaaDoor.L
open Go.RowKit Go.Proofs.YtbngfhlciebeeaaDoorW.PrintWords Go.Proofs.YtbngfhlciebeeaaDoorW.PrintLast Go.Proofs.YtbngfhlciebeeaaDoorW.PrintMore
attribute [local go_sem] max2_int min2_int max_two min_two max_three min_three max_four min_four   -- for this text's walks alone
set_option linter.unusedVariables false
set_option linter.unusedSimpArgs false
mutual
def whirligigref01_Result.j0 : Nat → Int → Int → Int → Bool → Option (Int)
 | 0, _, _, _, _ => none
 | k + 1, x0, x1, x2, x12 => if x12 = true then (some 2) else (if x0 = 2 then (whirligigref01_Result.j1 k x0 x1 x2 (x1 == 1)) else (whirligigref01_Result.j1 k x0 x1 x2 false))
def whirligigref01_Result.j1 : Nat → Int → Int → Int → Bool → Option (Int)
 | 0, _, _, _, _ => none
 | k + 1, x0, x1, x2, x18 => if x18 = true then (some 1) else (if x0 < 3 then (whirligigref01_Result.j2 k x0 x1 true) else (if x0 > 15 then (whirligigref01_Result.j2 k x0 x1 true) else (if x1 = x2 then (if x1 < 1 then (whirligigref01_Result.j2 k x0 x1 true) else (whirligigref01_Result.j2 k x0 x1 (decide (x1 > 3)))) else (whirligigref01_Result.j2 k x0 x1 true))))
def whirligigref01_Result.j2 : Nat → Int → Int → Bool → Option (Int)
 | 0, _, _, _ => none
 | k + 1, x0, x1, x37 => if x37 = true then (some 0) else (if x0 ≥ 14 then (if x1 = 2 then (whirligigref01_Result.j3 k x0 x1 true) else (if x0 = 12 then (whirligigref01_Result.j3 k x0 x1 true) else (whirligigref01_Result.j3 k x0 x1 (x0 == 13)))) else (if x0 = 12 then (whirligigref01_Result.j3 k x0 x1 true) else (whirligigref01_Result.j3 k x0 x1 (x0 == 13))))
def whirligigref01_Result.j3 : Nat → Int → Int → Bool → Option (Int)
 | 0, _, _, _ => none
 | k + 1, x0, x1, x51 => if x51 = true then (some 2) else (if x0 ≥ 8 then (if x0 ≤ 11 then (whirligigref01_Result.j4 k x0 x1 (x1 != 2)) else (whirligigref01_Result.j4 k x0 x1 false)) else (whirligigref01_Result.j4 k x0 x1 false))
def whirligigref01_Result.j4 : Nat → Int → Int → Bool → Option (Int)
 | 0, _, _, _ => none
 | k + 1, x0, x1, x61 => if x61 = true then (some 2) else (if x0 = 6 then (whirligigref01_Result.j5 k x0 x1 (x1 == 3)) else (whirligigref01_Result.j5 k x0 x1 false))
def whirligigref01_Result.j5 : Nat → Int → Int → Bool → Option (Int)
 | 0, _, _, _ => none
 | k + 1, x0, x1, x67 => if x67 = true then (some 3) else (if x0 ≥ 3 then (if x0 ≤ 7 then (if x1 = 1 then (some 1) else (some 0)) else (some 0)) else (some 0))
end
def whirligigref01_Result.f (k : Nat) (a0 : Int) (a1 : Int) (a2 : Int) : Option (Int) := if a0 = 1 then (whirligigref01_Result.j0 k a0 a1 a2 (a1 == 2)) else (whirligigref01_Result.j0 k a0 a1 a2 false)
set_option maxHeartbeats 8000000 in
set_option maxRecDepth 100000 in
theorem whirligigref01_Result.calls (k : Nat) (a0 : Int) (a1 : Int) (a2 : Int) (r : Int) (w : World) (h : whirligigref01_Result.f k a0 a1 a2 = some r) :
  Calls Tryd.prog 92 #[.int .i64 a0, .int .i64 a1, .int .i64 a2] w fun e w' => e = .returned (.int .i64 r) ∧ Drawn0 w w' := by
 have H : (if a0 = 1 then (whirligigref01_Result.j0 k a0 a1 a2 (a1 == 2)) else (whirligigref01_Result.j0 k a0 a1 a2 false)) = some r := h
 clear h
 have HC4 := Aside0.mk H
 clear H
 go_enter Tryd.func92, Tryd.ntmps92
 go_upto_region 1 with (fail)
 go_cut [12] (fun v12 wc => ∃ (kq : Nat) (x12_3 : Bool), v12 = .bool x12_3 ∧ Aside0 (whirligigref01_Result.j0 kq a0 a1 a2 x12_3 = some r) ∧ Aside0 (kq ≤ k) ∧ Drawn0 w wc)
 case first =>
  have H := HC4.out
  clear HC4
  by_cases c5 : a0 = 1
  ·rw [if_pos c5] at H
   have c5b0 := beq_iff_eq.mpr c5
   have c5b1 := bne_eq_false_iff_eq.mpr c5
   clear c5
   (first | rw [c5b0] | (simp only [i64_w, i32_w]; rw [c5b0]) | skip)
   have H' := Aside0.mk H
   clear H
   go_wp2
   go_meet
   case rel => exact ⟨_, ((a1 == 2)), (by first | rfl | (simp; done) | (simp [*]; done)), H', ⟨by first | omega | exact Nat.le_refl _⟩, by repeat (first | exact Drawn0.refl _ | apply Drawn0.step)⟩
  ·rw [if_neg c5] at H
   have c5b0 := beq_eq_false_iff_ne.mpr c5
   have c5b1 := bne_iff_ne.mpr c5
   (first | rw [c5b0] | (simp only [i64_w, i32_w]; rw [c5b0]) | skip)
   have H' := Aside0.mk H
   clear H
   go_wp2
   go_meet
   case rel => exact ⟨_, (false), (by first | rfl | (simp; done) | (simp [*]; done)), H', ⟨by first | omega | exact Nat.le_refl _⟩, by repeat (first | exact Drawn0.refl _ | apply Drawn0.step)⟩
 case rest =>
  clear HC4
  try clear p2
  try clear c5
  try clear c5b0
  try clear c5b1
  obtain ⟨kq, x12_3, rfl, HA, HJ3, ⟨mc3, rfl⟩⟩ := hcut
  cases kq with
  | zero => exact absurd HA.out (by simp [whirligigref01_Result.j0])
  | succ kj3 =>
   have H := HA.out
   clear HA
   simp only [whirligigref01_Result.j0] at H
   by_cases c6 : x12_3 = true
   ·subst c6
    rw [if_pos rfl] at H
    obtain rfl := Option.some.inj H
    go_wp2
    go_ret
    exact ⟨by first | rfl | (simp; done) | (simp [*]; done), by repeat (first | exact Drawn0.refl _ | apply Drawn0.step)⟩
   ·replace c6 := Bool.eq_false_iff.mpr c6
    subst c6
    rw [if_neg (show ¬ (false = true) by decide)] at H
    have HC7 := Aside0.mk H
    clear H
    go_upto_region 3 with (fail)
    go_cut [18] (fun v18 wc => ∃ (kq : Nat) (x18_6 : Bool), v18 = .bool x18_6 ∧ Aside0 (whirligigref01_Result.j1 kq a0 a1 a2 x18_6 = some r) ∧ Aside0 (kq ≤ kj3) ∧ Drawn0 w wc)
    case first =>
     have H := HC7.out
     clear HC7
     by_cases c8 : a0 = 2
     ·rw [if_pos c8] at H
      have c8b0 := beq_iff_eq.mpr c8
      have c8b1 := bne_eq_false_iff_eq.mpr c8
      clear c8
      (first | rw [c8b0] | (simp only [i64_w, i32_w]; rw [c8b0]) | skip)
      have H' := Aside0.mk H
      clear H
      go_wp2
      go_meet
      case rel => exact ⟨_, ((a1 == 1)), (by first | rfl | (simp; done) | (simp [*]; done)), H', ⟨by have := HJ3.out; first | omega | exact Nat.le_refl _⟩, by repeat (first | exact Drawn0.refl _ | apply Drawn0.step)⟩
     ·rw [if_neg c8] at H
      have c8b0 := beq_eq_false_iff_ne.mpr c8
      have c8b1 := bne_iff_ne.mpr c8
      (first | rw [c8b0] | (simp only [i64_w, i32_w]; rw [c8b0]) | skip)
      have H' := Aside0.mk H
      clear H
      go_wp2
      go_meet
      case rel => exact ⟨_, (false), (by first | rfl | (simp; done) | (simp [*]; done)), H', ⟨by have := HJ3.out; first | omega | exact Nat.le_refl _⟩, by repeat (first | exact Drawn0.refl _ | apply Drawn0.step)⟩
    case rest =>
     clear HC7
     try clear p2 p2
     try clear c3
     try clear c5
     try clear c5b0
     try clear c5b1
     try clear c6
     try clear c8
     try clear c8b0
     try clear c8b1
     obtain ⟨kq, x18_6, rfl, HA, HJ6, ⟨mc6, rfl⟩⟩ := hcut
     cases kq with
     | zero => exact absurd HA.out (by simp [whirligigref01_Result.j1])
     | succ kj6 =>
      have H := HA.out
      clear HA
      simp only [whirligigref01_Result.j1] at H
      by_cases c9 : x18_6 = true
      ·subst c9
       rw [if_pos rfl] at H
       obtain rfl := Option.some.inj H
       go_wp2
       go_ret
       exact ⟨by first | rfl | (simp; done) | (simp [*]; done), by repeat (first | exact Drawn0.refl _ | apply Drawn0.step)⟩
      ·replace c9 := Bool.eq_false_iff.mpr c9
       subst c9
       rw [if_neg (show ¬ (false = true) by decide)] at H
       have HC10 := Aside0.mk H
       clear H
       go_upto_region 5 with (fail)
       go_cut [37] (fun v37 wc => ∃ (kq : Nat) (x37_9 : Bool), v37 = .bool x37_9 ∧ Aside0 (whirligigref01_Result.j2 kq a0 a1 x37_9 = some r) ∧ Aside0 (kq ≤ kj6) ∧ Drawn0 w wc)
       case first =>
        have H := HC10.out
        clear HC10
        replace H := iD H
        rcases H with ⟨c11b0, H⟩ | ⟨c11b0, H⟩
        ·(first | rw [c11b0] | (simp only [i64_w, i32_w]; rw [c11b0]) | skip)
         have H' := Aside0.mk H
         clear H
         go_wp2
         go_meet
         case rel => exact ⟨_, (true), (by first | rfl | (simp; done) | (simp [*]; done)), H', ⟨by have := HJ3.out; have := HJ6.out; first | omega | exact Nat.le_refl _⟩, by repeat (first | exact Drawn0.refl _ | apply Drawn0.step)⟩
        ·(first | rw [c11b0] | (simp only [i64_w, i32_w]; rw [c11b0]) | skip)
         replace H := iD H
         rcases H with ⟨c12b0, H⟩ | ⟨c12b0, H⟩
         ·have H' := Aside0.mk H
          clear H
          go_wp2
          go_meet
          case rel => exact ⟨_, (true), (by first | rfl | (simp; done) | (simp [*]; done)), H', ⟨by have := HJ3.out; have := HJ6.out; first | omega | exact Nat.le_refl _⟩, by repeat (first | exact Drawn0.refl _ | apply Drawn0.step)⟩
         ·by_cases c13 : a1 = a2
          ·rw [if_pos c13] at H
           have c13b0 := beq_iff_eq.mpr c13
           have c13b1 := bne_eq_false_iff_eq.mpr c13
           clear c13
           replace H := iD H
           rcases H with ⟨c14b0, H⟩ | ⟨c14b0, H⟩
           ·have H' := Aside0.mk H
            clear H
            go_wp2
            go_meet
            case rel => exact ⟨_, (true), (by first | rfl | (simp; done) | (simp [*]; done)), H', ⟨by have := HJ3.out; have := HJ6.out; first | omega | exact Nat.le_refl _⟩, by repeat (first | exact Drawn0.refl _ | apply Drawn0.step)⟩
           ·have H' := Aside0.mk H
            clear H
            go_wp2
            go_meet
            case rel => exact ⟨_, (decide (a1 > 3)), (by first | rfl | (simp; done) | (simp [*]; done)), H', ⟨by have := HJ3.out; have := HJ6.out; first | omega | exact Nat.le_refl _⟩, by repeat (first | exact Drawn0.refl _ | apply Drawn0.step)⟩
          ·rw [if_neg c13] at H
           have c13b0 := beq_eq_false_iff_ne.mpr c13
           have c13b1 := bne_iff_ne.mpr c13
           have H' := Aside0.mk H
           clear H
           go_wp2
           go_meet
           case rel => exact ⟨_, (true), (by first | rfl | (simp; done) | (simp [*]; done)), H', ⟨by have := HJ3.out; have := HJ6.out; first | omega | exact Nat.le_refl _⟩, by repeat (first | exact Drawn0.refl _ | apply Drawn0.step)⟩
       case rest =>
        clear HC10
        try clear c1
        try clear p2 p2
        try clear c3
        try clear c5
        try clear c5b0
        try clear c5b1
        try clear c6
        try clear c8
        try clear c8b0
        try clear c8b1
        try clear c9
        try clear c11
        try clear c11b0
        try clear c12
        try clear c12b0
        try clear c13
        try clear c13b0
        try clear c13b1
        try clear c14
        try clear c14b0
        obtain ⟨kq, x37_9, rfl, HA, HJ9, ⟨mc9, rfl⟩⟩ := hcut
        cases kq with
        | zero => exact absurd HA.out (by simp [whirligigref01_Result.j2])
        | succ kj9 =>
         have H := HA.out
         clear HA
         simp only [whirligigref01_Result.j2] at H
         by_cases c15 : x37_9 = true
         ·subst c15
          rw [if_pos rfl] at H
          obtain rfl := Option.some.inj H
          go_wp2
          go_ret
          exact ⟨by first | rfl | (simp; done) | (simp [*]; done), by repeat (first | exact Drawn0.refl _ | apply Drawn0.step)⟩
         ·replace c15 := Bool.eq_false_iff.mpr c15
          subst c15
          rw [if_neg (show ¬ (false = true) by decide)] at H
          have HC16 := Aside0.mk H
          clear H
          go_upto_region 7 with (fail)
          go_cut [51] (fun v51 wc => ∃ (kq : Nat) (x51_15 : Bool), v51 = .bool x51_15 ∧ Aside0 (whirligigref01_Result.j3 kq a0 a1 x51_15 = some r) ∧ Aside0 (kq ≤ kj9) ∧ Drawn0 w wc)
          case first =>
           have H := HC16.out
           clear HC16
           replace H := iD H
           rcases H with ⟨c17b0, H⟩ | ⟨c17b0, H⟩
           ·(first | rw [c17b0] | (simp only [i64_w, i32_w]; rw [c17b0]) | skip)
            by_cases c18 : a1 = 2
            ·rw [if_pos c18] at H
             have c18b0 := beq_iff_eq.mpr c18
             have c18b1 := bne_eq_false_iff_eq.mpr c18
             clear c18
             have H' := Aside0.mk H
             clear H
             go_wp2
             go_meet
             case rel => exact ⟨_, (true), (by first | rfl | (simp; done) | (simp [*]; done)), H', ⟨by have := HJ3.out; have := HJ6.out; have := HJ9.out; first | omega | exact Nat.le_refl _⟩, by repeat (first | exact Drawn0.refl _ | apply Drawn0.step)⟩
            ·rw [if_neg c18] at H
             have c18b0 := beq_eq_false_iff_ne.mpr c18
             have c18b1 := bne_iff_ne.mpr c18
             by_cases c19 : a0 = 12
             ·rw [if_pos c19] at H
              have c19b0 := beq_iff_eq.mpr c19
              have c19b1 := bne_eq_false_iff_eq.mpr c19
              clear c19
              have H' := Aside0.mk H
              clear H
              go_wp2
              go_meet
              case rel => exact ⟨_, (true), (by first | rfl | (simp; done) | (simp [*]; done)), H', ⟨by have := HJ3.out; have := HJ6.out; have := HJ9.out; first | omega | exact Nat.le_refl _⟩, by repeat (first | exact Drawn0.refl _ | apply Drawn0.step)⟩
             ·rw [if_neg c19] at H
              have c19b0 := beq_eq_false_iff_ne.mpr c19
              have c19b1 := bne_iff_ne.mpr c19
              have H' := Aside0.mk H
              clear H
              go_wp2
              go_meet
              case rel => exact ⟨_, ((a0 == 13)), (by first | rfl | (simp; done) | (simp [*]; done)), H', ⟨by have := HJ3.out; have := HJ6.out; have := HJ9.out; first | omega | exact Nat.le_refl _⟩, by repeat (first | exact Drawn0.refl _ | apply Drawn0.step)⟩
           ·(first | rw [c17b0] | (simp only [i64_w, i32_w]; rw [c17b0]) | skip)
            by_cases c20 : a0 = 12
            ·rw [if_pos c20] at H
             have c20b0 := beq_iff_eq.mpr c20
             have c20b1 := bne_eq_false_iff_eq.mpr c20
             clear c20
             have H' := Aside0.mk H
             clear H
             go_wp2
             go_meet
             case rel => exact ⟨_, (true), (by first | rfl | (simp; done) | (simp [*]; done)), H', ⟨by have := HJ3.out; have := HJ6.out; have := HJ9.out; first | omega | exact Nat.le_refl _⟩, by repeat (first | exact Drawn0.refl _ | apply Drawn0.step)⟩
            ·rw [if_neg c20] at H
             have c20b0 := beq_eq_false_iff_ne.mpr c20
             have c20b1 := bne_iff_ne.mpr c20
             have H' := Aside0.mk H
             clear H
             go_wp2
             go_meet
             case rel => exact ⟨_, ((a0 == 13)), (by first | rfl | (simp; done) | (simp [*]; done)), H', ⟨by have := HJ3.out; have := HJ6.out; have := HJ9.out; first | omega | exact Nat.le_refl _⟩, by repeat (first | exact Drawn0.refl _ | apply Drawn0.step)⟩
          case rest =>
           clear HC16
           try clear c1
           try clear c2
           try clear p2 p2
           try clear c3
           try clear c5
           try clear c5b0
           try clear c5b1
           try clear c6
           try clear c8
           try clear c8b0
           try clear c8b1
           try clear c9
           try clear c11
           try clear c11b0
           try clear c12
           try clear c12b0
           try clear c13
           try clear c13b0
           try clear c13b1
           try clear c14
           try clear c14b0
           try clear c15
           try clear c17
           try clear c17b0
           try clear c18
           try clear c18b0
           try clear c18b1
           try clear c19
           try clear c19b0
           try clear c19b1
           try clear c20
           try clear c20b0
           try clear c20b1
           obtain ⟨kq, x51_15, rfl, HA, HJ15, ⟨mc15, rfl⟩⟩ := hcut
           cases kq with
           | zero => exact absurd HA.out (by simp [whirligigref01_Result.j3])
           | succ kj15 =>
            have H := HA.out
            clear HA
            simp only [whirligigref01_Result.j3] at H
            by_cases c21 : x51_15 = true
            ·subst c21
             rw [if_pos rfl] at H
             obtain rfl := Option.some.inj H
             go_wp2
             go_ret
             exact ⟨by first | rfl | (simp; done) | (simp [*]; done), by repeat (first | exact Drawn0.refl _ | apply Drawn0.step)⟩
            ·replace c21 := Bool.eq_false_iff.mpr c21
             subst c21
             rw [if_neg (show ¬ (false = true) by decide)] at H
             have HC22 := Aside0.mk H
             clear H
             go_upto_region 9 with (fail)
             go_cut [61] (fun v61 wc => ∃ (kq : Nat) (x61_21 : Bool), v61 = .bool x61_21 ∧ Aside0 (whirligigref01_Result.j4 kq a0 a1 x61_21 = some r) ∧ Aside0 (kq ≤ kj15) ∧ Drawn0 w wc)
             case first =>
              have H := HC22.out
              clear HC22
              replace H := iD H
              rcases H with ⟨c23b0, H⟩ | ⟨c23b0, H⟩
              ·(first | rw [c23b0] | (simp only [i64_w, i32_w]; rw [c23b0]) | skip)
               replace H := iD H
               rcases H with ⟨c24b0, H⟩ | ⟨c24b0, H⟩
               ·have H' := Aside0.mk H
                clear H
                go_wp2
                go_meet
                case rel => exact ⟨_, ((a1 != 2)), (by first | rfl | (simp; done) | (simp [*]; done)), H', ⟨by have := HJ3.out; have := HJ6.out; have := HJ9.out; have := HJ15.out; first | omega | exact Nat.le_refl _⟩, by repeat (first | exact Drawn0.refl _ | apply Drawn0.step)⟩
               ·have H' := Aside0.mk H
                clear H
                go_wp2
                go_meet
                case rel => exact ⟨_, (false), (by first | rfl | (simp; done) | (simp [*]; done)), H', ⟨by have := HJ3.out; have := HJ6.out; have := HJ9.out; have := HJ15.out; first | omega | exact Nat.le_refl _⟩, by repeat (first | exact Drawn0.refl _ | apply Drawn0.step)⟩
              ·(first | rw [c23b0] | (simp only [i64_w, i32_w]; rw [c23b0]) | skip)
               have H' := Aside0.mk H
               clear H
               go_wp2
               go_meet
               case rel => exact ⟨_, (false), (by first | rfl | (simp; done) | (simp [*]; done)), H', ⟨by have := HJ3.out; have := HJ6.out; have := HJ9.out; have := HJ15.out; first | omega | exact Nat.le_refl _⟩, by repeat (first | exact Drawn0.refl _ | apply Drawn0.step)⟩
             case rest =>
              clear HC22
              try clear c1
              try clear c2
              try clear p2 p2
              try clear c3
              try clear c5
              try clear c5b0
              try clear c5b1
              try clear c6
              try clear c8
              try clear c8b0
              try clear c8b1
              try clear c9
              try clear c11
              try clear c11b0
              try clear c12
              try clear c12b0
              try clear c13
              try clear c13b0
              try clear c13b1
              try clear c14
              try clear c14b0
              try clear c15
              try clear c17
              try clear c17b0
              try clear c18
              try clear c18b0
              try clear c18b1
              try clear c19
              try clear c19b0
              try clear c19b1
              try clear c20
              try clear c20b0
              try clear c20b1
              try clear c21
              try clear c23
              try clear c23b0
              try clear c24
              try clear c24b0
              obtain ⟨kq, x61_21, rfl, HA, HJ21, ⟨mc21, rfl⟩⟩ := hcut
              cases kq with
              | zero => exact absurd HA.out (by simp [whirligigref01_Result.j4])
              | succ kj21 =>
               have H := HA.out
               clear HA
               simp only [whirligigref01_Result.j4] at H
               by_cases c25 : x61_21 = true
               ·subst c25
                rw [if_pos rfl] at H
                obtain rfl := Option.some.inj H
                go_wp2
                go_ret
                exact ⟨by first | rfl | (simp; done) | (simp [*]; done), by repeat (first | exact Drawn0.refl _ | apply Drawn0.step)⟩
               ·replace c25 := Bool.eq_false_iff.mpr c25
                subst c25
                rw [if_neg (show ¬ (false = true) by decide)] at H
                have HC26 := Aside0.mk H
                clear H
                go_upto_region 11 with (fail)
                go_cut [67] (fun v67 wc => ∃ (kq : Nat) (x67_25 : Bool), v67 = .bool x67_25 ∧ Aside0 (whirligigref01_Result.j5 kq a0 a1 x67_25 = some r) ∧ Aside0 (kq ≤ kj21) ∧ Drawn0 w wc)
                case first =>
                 have H := HC26.out
                 clear HC26
                 by_cases c27 : a0 = 6
                 ·rw [if_pos c27] at H
                  have c27b0 := beq_iff_eq.mpr c27
                  have c27b1 := bne_eq_false_iff_eq.mpr c27
                  clear c27
                  (first | rw [c27b0] | (simp only [i64_w, i32_w]; rw [c27b0]) | skip)
                  have H' := Aside0.mk H
                  clear H
                  go_wp2
                  go_meet
                  case rel => exact ⟨_, ((a1 == 3)), (by first | rfl | (simp; done) | (simp [*]; done)), H', ⟨by have := HJ3.out; have := HJ6.out; have := HJ9.out; have := HJ15.out; have := HJ21.out; first | omega | exact Nat.le_refl _⟩, by repeat (first | exact Drawn0.refl _ | apply Drawn0.step)⟩
                 ·rw [if_neg c27] at H
                  have c27b0 := beq_eq_false_iff_ne.mpr c27
                  have c27b1 := bne_iff_ne.mpr c27
                  (first | rw [c27b0] | (simp only [i64_w, i32_w]; rw [c27b0]) | skip)
                  have H' := Aside0.mk H
                  clear H
                  go_wp2
                  go_meet
                  case rel => exact ⟨_, (false), (by first | rfl | (simp; done) | (simp [*]; done)), H', ⟨by have := HJ3.out; have := HJ6.out; have := HJ9.out; have := HJ15.out; have := HJ21.out; first | omega | exact Nat.le_refl _⟩, by repeat (first | exact Drawn0.refl _ | apply Drawn0.step)⟩
                case rest =>
                 clear HC26
                 try clear c1
                 try clear c2
                 try clear p2 p2
                 try clear c3
                 try clear c5
                 try clear c5b0
                 try clear c5b1
                 try clear c6
                 try clear c8
                 try clear c8b0
                 try clear c8b1
                 try clear c9
                 try clear c11
                 try clear c11b0
                 try clear c12
                 try clear c12b0
                 try clear c13
                 try clear c13b0
                 try clear c13b1
                 try clear c14
                 try clear c14b0
                 try clear c15
                 try clear c17
                 try clear c17b0
                 try clear c18
                 try clear c18b0
                 try clear c18b1
                 try clear c19
                 try clear c19b0
                 try clear c19b1
                 try clear c20
                 try clear c20b0
                 try clear c20b1
                 try clear c21
                 try clear c23
                 try clear c23b0
                 try clear c24
                 try clear c24b0
                 try clear c25
                 try clear c27
                 try clear c27b0
                 try clear c27b1
                 obtain ⟨kq, x67_25, rfl, HA, HJ25, ⟨mc25, rfl⟩⟩ := hcut
                 cases kq with
                 | zero => exact absurd HA.out (by simp [whirligigref01_Result.j5])
                 | succ kj25 =>
                  have H := HA.out
                  clear HA
                  simp only [whirligigref01_Result.j5] at H
                  by_cases c28 : x67_25 = true
                  ·subst c28
                   rw [if_pos rfl] at H
                   obtain rfl := Option.some.inj H
                   go_wp2
                   go_ret
                   exact ⟨by first | rfl | (simp; done) | (simp [*]; done), by repeat (first | exact Drawn0.refl _ | apply Drawn0.step)⟩
                  ·replace c28 := Bool.eq_false_iff.mpr c28
                   subst c28
                   rw [if_neg (show ¬ (false = true) by decide)] at H
                   replace H := iD H
                   rcases H with ⟨c29b0, H⟩ | ⟨c29b0, H⟩
                   ·by_cases c30 : a0 ≤ 7
                    ·rw [if_pos c30] at H
                     have c30b0 := decide_eq_true c30
                     clear c30
                     by_cases c31 : a1 = 1
                     ·rw [if_pos c31] at H
                      have c31b0 := beq_iff_eq.mpr c31
                      have c31b1 := bne_eq_false_iff_eq.mpr c31
                      clear c31
                      obtain rfl := Option.some.inj H
                      go_wp2
                      go_ret
                      exact ⟨by first | rfl | (simp; done) | (simp [*]; done), by repeat (first | exact Drawn0.refl _ | apply Drawn0.step)⟩
                     ·rw [if_neg c31] at H
                      have c31b0 := beq_eq_false_iff_ne.mpr c31
                      have c31b1 := bne_iff_ne.mpr c31
                      obtain rfl := Option.some.inj H
                      go_wp2
                      go_ret
                      exact ⟨by first | rfl | (simp; done) | (simp [*]; done), by repeat (first | exact Drawn0.refl _ | apply Drawn0.step)⟩
                    ·rw [if_neg c30] at H
                     have c30b0 := decide_eq_false c30
                     clear c30
                     obtain rfl := Option.some.inj H
                     go_wp2
                     go_ret
                     exact ⟨by first | rfl | (simp; done) | (simp [*]; done), by repeat (first | exact Drawn0.refl _ | apply Drawn0.step)⟩
                   ·obtain rfl := Option.some.inj H
                    go_wp2
                    go_ret
                    exact ⟨by first | rfl | (simp; done) | (simp [*]; done), by repeat (first | exact Drawn0.refl _ | apply Drawn0.step)⟩
end Go.Proofs.YtbngfhlciebeeaaDoor.L
