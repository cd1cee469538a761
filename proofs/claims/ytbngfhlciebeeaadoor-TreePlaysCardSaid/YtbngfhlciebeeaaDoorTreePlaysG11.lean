/- Printed and hand-written steps towards the row (TreePlays), those that it reaches. -/
import Derived.Test.YtbngfhlciebeeaaDoorTreePlaysG4
import Derived.Test.YtbngfhlciebeeaaDoorTreePlaysG5
import Derived.Test.YtbngfhlciebeeaaDoorTreePlaysG10
section
namespace Go.Proofs.YtbngfhlciebeeaaDoor.L
open Go.RowKit Go.Proofs.YtbngfhlciebeeaaDoorW.PrintWords Go.Proofs.YtbngfhlciebeeaaDoorW.PrintLast Go.Proofs.YtbngfhlciebeeaaDoorW.PrintMore
attribute [local go_sem] max2_int min2_int max_two min_two max_three min_three max_four min_four   -- for this text's walks alone
set_option linter.unusedVariables false
set_option linter.unusedSimpArgs false
mutual
def whirligigref01_Number.j0 : Nat → ByteArray → ByteArray → Bool → Option (Int × Bool)
 | 0, _, _, _ => none
 | k + 1, x0, x4, x16 => if x16 = true then (if 1 ≤ (x0.size : Int) then (whirligigref01_Number.j1 k x0 (x0.extract 1 x0.size)) else (none)) else (whirligigref01_Number.j1 k x0 x4)
def whirligigref01_Number.j1 : Nat → ByteArray → ByteArray → Option (Int × Bool)
 | 0, _, _ => none
 | k + 1, x0, x4 => if (x4.size : Int) = 0 then (whirligigref01_Number.j2 k x0 x4 true) else (whirligigref01_Number.j2 k x0 x4 (decide ((x4.size : Int) > 19)))
def whirligigref01_Number.j2 : Nat → ByteArray → ByteArray → Bool → Option (Int × Bool)
 | 0, _, _, _ => none
 | k + 1, x0, x4, x26 => if x26 = true then (some (0, false)) else (whirligigref01_Number.l0 k x0 x4 0 0)
def whirligigref01_Number.l0 : Nat → ByteArray → ByteArray → Int → Int → Option (Int × Bool)
 | 0, _, _, _, _ => none
 | k + 1, x0, x4, x5, x6 => if x6 < (x4.size : Int) then (if 0 ≤ x6 then (if (bt x4 x6) < 48 then (whirligigref01_Number.j4 k x0 x4 x5 x6 true) else (whirligigref01_Number.j4 k x0 x4 x5 x6 (decide ((bt x4 x6) > 57)))) else (none)) else (if (x4.size : Int) = (x0.size : Int) then (if x5 = (-9223372036854775808) then (some (0, false)) else ((whirligigref01_Digits.f k (wrap64 (-x5))).bind fun t178 => (some (wrap64 (-x5), (t178.toList == x0.toList))))) else ((whirligigref01_Digits.f k x5).bind fun t179 => (some (x5, (t179.toList == x0.toList)))))
def whirligigref01_Number.j4 : Nat → ByteArray → ByteArray → Int → Int → Bool → Option (Int × Bool)
 | 0, _, _, _, _, _ => none
 | k + 1, x0, x4, x5, x6, x42 => if x42 = true then (some (0, false)) else (if 0 ≤ x6 then (if x6 < (x4.size : Int) then (if x5 < (Int.tdiv ((-9223372036854775808) + (((bt x4 x6) - 48) % 256)) 10) then (some (0, false)) else (whirligigref01_Number.l0 k x0 x4 (wrap64 ((wrap64 (10 * x5)) - (((bt x4 x6) - 48) % 256))) (wrap64 (x6 + 1)))) else (none)) else (none))
end
def whirligigref01_Number.f (k : Nat) (a0 : ByteArray) : Option (Int × Bool) := if (a0.size : Int) > 0 then (if 0 < (a0.size : Int) then (whirligigref01_Number.j0 k a0 a0 ((bt a0 0) == 45)) else (none)) else (whirligigref01_Number.j0 k a0 a0 false)
set_option maxHeartbeats 8000000 in
set_option maxRecDepth 100000 in
theorem whirligigref01_Number.calls (k : Nat) (a0 : ByteArray) (r1 : Int) (r2 : Bool) (w : World) (h : whirligigref01_Number.f k a0 = some (r1, r2)) :
  Calls Tryd.prog 135 #[.string a0] w fun e w' => e = .returned (.tuple #[.int .i64 r1, .bool r2]) ∧ Below w.heap.size w w' := by
 have HB := Aside0.mk (Below.refl w.heap.size w)
 have H : (if (a0.size : Int) > 0 then (if 0 < (a0.size : Int) then (whirligigref01_Number.j0 k a0 a0 ((bt a0 0) == 45)) else (none)) else (whirligigref01_Number.j0 k a0 a0 false)) = some (r1, r2) := h
 clear h
 have HC2 := Aside0.mk H
 clear H
 go_enter Tryd.func135, Tryd.ntmps135
 go_upto_region 2 with (fail)
 go_cut [16] (fun v16 wc => ∃ (kq : Nat) (x16_1 : Bool), v16 = .bool x16_1 ∧ Aside0 (whirligigref01_Number.j0 kq a0 a0 x16_1 = some (r1, r2)) ∧ Aside0 (kq ≤ k) ∧ Aside0 (Below w.heap.size w wc))
 case first =>
  have H := HC2.out
  clear HC2
  by_cases c3 : (a0.size : Int) > 0
  ·rw [if_pos c3] at H
   have c3b0 := decide_eq_true c3
   have c3b1 : decide (0 < a0.size) = true := decide_eq_true (by omega)
   clear c3
   (first | rw [c3b0] | (simp only [i64_w, i32_w]; rw [c3b0]) | skip)
   by_cases c4 : 0 < (a0.size : Int)
   ·rw [if_pos c4] at H
    have c4b0 := decide_eq_true c4
    have c4b1 : decide (0 < a0.size) = true := decide_eq_true (by omega)
    clear c4
    have H' := Aside0.mk H
    clear H
    have p5 : 0 ≤ (0 : Int) := (by omega)
    have q5 : 0 < a0.size := (by have : (0 : Int) < (a0.size : Int) := qD; omega)
    have hx5 : ∀ h : 0 < a0.size, ((a0[0]'h).toNat : Int) = bt a0 0 := bt_at a0 0
    clear p5
    have qi5 : (0 < (a0.size : Int)) = True := eq_true (qD)
    replace q5 := eq_true q5
    go_wp2
    go_meet
    case rel => exact ⟨_, (((bt a0 0) == 45)), qE, H', ⟨by first | omega | exact Nat.le_refl _⟩, ⟨qB⟩⟩
   rw [if_neg c4] at H
   exact absurd H (by simp)
  rw [if_neg c3] at H
  have c3b0 := decide_eq_false c3
  have c3b1 : decide (0 < a0.size) = false := decide_eq_false (by omega)
  clear c3
  (first | rw [c3b0] | (simp only [i64_w, i32_w]; rw [c3b0]) | skip)
  have H' := Aside0.mk H
  clear H
  go_wp2
  go_meet
  case rel => exact ⟨_, (false), qE, H', ⟨by first | omega | exact Nat.le_refl _⟩, ⟨qB⟩⟩
 case rest =>
  clear HC2
  try clear p2
  try clear p5 p5
  try clear q5 q5
  try clear hx5
  try clear qi5
  obtain ⟨kq, x16_1, rfl, HA, HJ1, HB⟩ := hcut
  cases kq with
  | zero => exact absurd HA.out (by simp [whirligigref01_Number.j0])
  | succ kj1 =>
   have H := HA.out
   clear HA
   simp only [whirligigref01_Number.j0] at H
   have HC6 := Aside0.mk H
   clear H
   go_upto_if 16 with (fail)
   go_cut [4] (fun v4 wc => ∃ (kq : Nat) (x4_5 : ByteArray), v4 = .string x4_5 ∧ Aside0 (whirligigref01_Number.j1 kq a0 x4_5 = some (r1, r2)) ∧ Aside0 (kq ≤ kj1) ∧ Aside0 (Below w.heap.size w wc))
   case first =>
    have H := HC6.out
    clear HC6
    by_cases c7 : x16_1 = true
    ·subst c7; rw [if_pos rfl] at H
     by_cases c8 : 1 ≤ (a0.size : Int)
     ·rw [if_pos c8] at H; have c8b0 := eq_true c8; have c8b1 := decide_eq_true c8; clear c8; have H' := Aside0.mk H; clear H
      go_wp2
      go_meet
      case rel => exact ⟨_, (a0.extract 1 a0.size), qE, H', ⟨by have := HJ1.out; first | omega | exact Nat.le_refl _⟩, ⟨qB⟩⟩
     rw [if_neg c8] at H; exact absurd H (by simp)
    replace c7 := Bool.eq_false_iff.mpr c7
    subst c7
    rw [if_neg (show ¬ (false = true) by decide)] at H
    have H' := Aside0.mk H
    clear H
    go_wp2
    go_meet
    case rel => exact ⟨_, (a0), qE, H', ⟨by have := HJ1.out; first | omega | exact Nat.le_refl _⟩, ⟨qB⟩⟩
   case rest =>
    clear HC6
    try clear p2 p2
    try clear p5 p5
    try clear q5 q5
    try clear hx5
    try clear qi5
    obtain ⟨kq, x4_5, rfl, HA, HJ5, HB⟩ := hcut
    cases kq with
    | zero => exact absurd HA.out (by simp [whirligigref01_Number.j1])
    | succ kj5 =>
     have H := HA.out; clear HA; simp only [whirligigref01_Number.j1] at H; have HC9 := Aside0.mk H; clear H
     go_upto_region 4 with (fail)
     go_cut [26] (fun v26 wc => ∃ (kq : Nat) (x26_8 : Bool), v26 = .bool x26_8 ∧ Aside0 (whirligigref01_Number.j2 kq a0 x4_5 x26_8 = some (r1, r2)) ∧ Aside0 (kq ≤ kj5) ∧ Aside0 (Below w.heap.size w wc))
     case first =>
      have H := HC9.out; clear HC9
      by_cases c10 : (x4_5.size : Int) = 0
      ·rw [if_pos c10] at H; have c10b0 := beq_iff_eq.mpr c10; have c10b1 := bne_eq_false_iff_eq.mpr c10; clear c10; (first | rw [c10b0] | (simp only [i64_w, i32_w]; rw [c10b0]) | skip); have H' := Aside0.mk H; clear H
       go_wp2
       go_meet
       case rel => exact ⟨_, (true), qE, H', ⟨by have := HJ1.out; have := HJ5.out; first | omega | exact Nat.le_refl _⟩, ⟨qB⟩⟩
      rw [if_neg c10] at H; have c10b0 := beq_eq_false_iff_ne.mpr c10; have c10b1 := bne_iff_ne.mpr c10; (first | rw [c10b0] | (simp only [i64_w, i32_w]; rw [c10b0]) | skip); have H' := Aside0.mk H; clear H
      go_wp2
      go_meet
      case rel => exact ⟨_, (decide ((x4_5.size : Int) > 19)), qE, H', ⟨by have := HJ1.out; have := HJ5.out; first | omega | exact Nat.le_refl _⟩, ⟨qB⟩⟩
     case rest =>
      clear HC9
      try clear p2 p2
      try clear p5 p5
      try clear q5 q5
      try clear hx5
      try clear qi5
      obtain ⟨kq, x26_8, rfl, HA, HJ8, HB⟩ := hcut; cases kq with
      | zero => exact absurd HA.out (by simp [whirligigref01_Number.j2])
      | succ kj8 =>
       have H := HA.out; clear HA; simp only [whirligigref01_Number.j2] at H
       by_cases c11 : x26_8 = true
       ·subst c11; rw [if_pos rfl] at H; simp only [Option.some.injEq, Prod.mk.injEq] at H; obtain ⟨rfl, rfl⟩ := H
        go_wp2
        go_ret2; exact ⟨qR, qB⟩
       replace c11 := Bool.eq_false_iff.mpr c11; subst c11; rw [if_neg (show ¬ (false = true) by decide)] at H; have H' := Aside0.mk H; clear H
       go_wp2
       go_loopg [5, 6] kj8 (fun kq v5 v6 w' => ∃ (x5_4 : Int) (x6_4 : Int), v5 = .int .i64 x5_4 ∧ v6 = .int .i64 x6_4 ∧ Aside0 (whirligigref01_Number.l0 kq a0 x4_5 x5_4 x6_4 = some (r1, r2)) ∧ Aside0 (kq ≤ kj8) ∧ Aside0 (Below w.heap.size w w'))
       case atStart => exact ⟨(0), (0), qE, qE, H', ⟨Nat.le_refl _⟩, ⟨qB⟩⟩
       case round =>
        clear H'
        try clear p2 p2
        try clear p5 p5
        try clear q5 q5
        try clear hx5
        try clear qi5
        obtain ⟨x5_4, x6_4, rfl, rfl, HA, HK4, HB⟩ := hrel; cases gk with
        | zero => exact absurd HA.out (by simp [whirligigref01_Number.l0])
        | succ k4 =>
         have H := HA.out; clear HA; simp only [whirligigref01_Number.l0] at H
         by_cases c12 : x6_4 < (x4_5.size : Int)
         ·rw [if_pos c12] at H; have c12b0 := decide_eq_true c12; clear c12; have HC13 := Aside0.mk H; clear H
          go_upto_region 10 with (fail)
          go_cut [42] (fun v42 wc => ∃ (kq : Nat) (x42_12 : Bool), v42 = .bool x42_12 ∧ Aside0 (whirligigref01_Number.j4 kq a0 x4_5 x5_4 x6_4 x42_12 = some (r1, r2)) ∧ Aside0 (kq ≤ k4) ∧ Aside0 (Below w.heap.size w wc))
          case first =>
           have H := HC13.out; clear HC13; replace H := iD H
           rcases H with ⟨c14b0, H⟩ | ⟨c14b0, H⟩
           ·(first | rw [c14b0] | (simp only [i64_w, i32_w]; rw [c14b0]) | skip); replace H := iD H
            rcases H with ⟨c16b0, H⟩ | ⟨c16b0, H⟩
            ·have H' := Aside0.mk H; clear H; have p15 : 0 ≤ (x6_4 : Int) := qD; have q15 : x6_4 < (x4_5.size : Int) := qD; have hx15 := bt_at x4_5 x6_4; replace p15 := eq_true p15; replace q15 := eq_true q15
             go_wp2
             go_meet
             case rel => exact ⟨_, (true), qE, H', ⟨by have := HJ1.out; have := HJ5.out; have := HJ8.out; have := HK4.out; first | omega | exact Nat.le_refl _⟩, ⟨qB⟩⟩
            have H' := Aside0.mk H; clear H; have p15 : 0 ≤ (x6_4 : Int) := qD; have q15 : x6_4 < (x4_5.size : Int) := qD; have hx15 := bt_at x4_5 x6_4; replace p15 := eq_true p15; replace q15 := eq_true q15; have p17 : 0 ≤ (x6_4 : Int) := qD; have q17 : x6_4 < (x4_5.size : Int) := qD; have hx17 := bt_at x4_5 x6_4; replace p17 := eq_true p17; replace q17 := eq_true q17
            go_wp2
            go_meet
            case rel => exact ⟨_, (decide ((bt x4_5 x6_4) > 57)), qE, H', ⟨by have := HJ1.out; have := HJ5.out; have := HJ8.out; have := HK4.out; first | omega | exact Nat.le_refl _⟩, ⟨qB⟩⟩
           exact absurd H (by simp)
          case rest =>
           clear HC13
           try clear p1
           try clear q1
           try clear hx1
           try clear p2 p2
           try clear p5 p5
           try clear q5 q5
           try clear hx5
           try clear qi5
           try clear p15 p15
           try clear q15 q15
           try clear hx15
           try clear p17 p17
           try clear q17 q17
           try clear hx17
           obtain ⟨kq, x42_12, rfl, HA, HJ12, HB⟩ := hcut; cases kq with
           | zero => exact absurd HA.out (by simp [whirligigref01_Number.j4])
           | succ kj12 =>
            have H := HA.out; clear HA; simp only [whirligigref01_Number.j4] at H
            by_cases c18 : x42_12 = true
            ·subst c18; rw [if_pos rfl] at H; simp only [Option.some.injEq, Prod.mk.injEq] at H; obtain ⟨rfl, rfl⟩ := H
             go_wp2
             go_ret2; exact ⟨qR, qB⟩
            replace c18 := Bool.eq_false_iff.mpr c18; subst c18; rw [if_neg (show ¬ (false = true) by decide)] at H; replace H := iD H
            rcases H with ⟨c19b0, H⟩ | ⟨c19b0, H⟩
            ·by_cases c20 : x6_4 < (x4_5.size : Int)
             ·rw [if_pos c20] at H; have c20b0 := decide_eq_true c20; clear c20; replace H := iD H
              rcases H with ⟨c22b0, H⟩ | ⟨c22b0, H⟩
              ·simp only [Option.some.injEq, Prod.mk.injEq] at H; obtain ⟨rfl, rfl⟩ := H; have p21 : 0 ≤ (x6_4 : Int) := qD; have q21 : x6_4 < (x4_5.size : Int) := qD; have hx21 := bt_at x4_5 x6_4; replace p21 := eq_true p21; replace q21 := eq_true q21
               go_wp2
               go_ret2; exact ⟨qR, qB⟩
              have H' := Aside0.mk H; clear H; have p21 : 0 ≤ (x6_4 : Int) := qD; have q21 : x6_4 < (x4_5.size : Int) := qD; have hx21 := bt_at x4_5 x6_4; replace p21 := eq_true p21; replace q21 := eq_true q21
              go_wp2
              go_roundg kj12
              case measure => have := HJ1.out; have := HJ5.out; have := HJ8.out; have := HK4.out; have := HJ12.out; omega
              case rel => exact ⟨(wrap64 ((wrap64 (10 * x5_4)) - (((bt x4_5 x6_4) - 48) % 256))), (wrap64 (x6_4 + 1)), qE, qE, H', ⟨by have := HJ1.out; have := HJ5.out; have := HJ8.out; have := HK4.out; have := HJ12.out; omega⟩, ⟨qB⟩⟩
             rw [if_neg c20] at H; exact absurd H (by simp)
            exact absurd H (by simp)
         rw [if_neg c12] at H; have c12b0 := decide_eq_false c12; clear c12
         by_cases c23 : (x4_5.size : Int) = (a0.size : Int)
         ·rw [if_pos c23] at H; have c23b0 := beq_iff_eq.mpr c23; have c23b1 := bne_eq_false_iff_eq.mpr c23; have c23b2 : (x4_5.size == a0.size) = true := by first | simpa using c23 | (simp at c23 ⊢; omega)
          clear c23
          by_cases c24 : x5_4 = (-9223372036854775808)
          ·rw [if_pos c24] at H; have c24b0 := beq_iff_eq.mpr c24; have c24b1 := bne_eq_false_iff_eq.mpr c24; clear c24; simp only [Option.some.injEq, Prod.mk.injEq] at H; obtain ⟨rfl, rfl⟩ := H
           go_wp2
           go_ret2; exact ⟨qR, qB⟩
          rw [if_neg c24] at H; have c24b0 := beq_eq_false_iff_ne.mpr c24; have c24b1 := bne_iff_ne.mpr c24; replace H := Option.bind_eq_some_iff.mp H; obtain ⟨t178, A250, H⟩ := H; (try dsimp -simprocs only at H); have A25 := Aside0.mk A250; clear A250; simp only [Option.some.injEq, Prod.mk.injEq] at H; obtain ⟨rfl, rfl⟩ := H
          go_wp2_with (first | ((with_reducible refine gc 154 rfl ?_); refine gl (some 68) #[.int .i64 (wrap64 (-x5_4))] Tryd.func154 ?_; (with_reducible refine (whirligigref01_Digits.calls k4 (wrap64 (-x5_4)) t178 _ A25.out).mono ?_); rintro e w26 ⟨rfl, hb⟩; refine ⟨_, rfl, ?_⟩; replace HB := bst hb; (try clear hb)))
          go_ret2; exact ⟨qR, qB⟩
         rw [if_neg c23] at H; have c23b0 := beq_eq_false_iff_ne.mpr c23; have c23b1 := bne_iff_ne.mpr c23; have c23b2 : (x4_5.size == a0.size) = false := by first | simpa using c23 | (simp at c23 ⊢; omega)
         replace H := Option.bind_eq_some_iff.mp H; obtain ⟨t179, A270, H⟩ := H; (try dsimp -simprocs only at H); have A27 := Aside0.mk A270; clear A270; simp only [Option.some.injEq, Prod.mk.injEq] at H; obtain ⟨rfl, rfl⟩ := H
         go_wp2_with (first | ((with_reducible refine gc 154 rfl ?_); refine gl (some 68) #[.int .i64 x5_4] Tryd.func154 ?_; (with_reducible refine (whirligigref01_Digits.calls k4 x5_4 t179 _ A27.out).mono ?_); rintro e w28 ⟨rfl, hb⟩; refine ⟨_, rfl, ?_⟩; replace HB := bst hb; (try clear hb)))
         go_ret2; exact ⟨qR, qB⟩
mutual
def whirligigref02_number.j1 : Nat → ByteArray → Int → Int → Option (Int × ByteArray × Int × Int × Int × Int)
 | 0, _, _, _ => none
 | k + 1, x0, x1, x7 => if 0 ≤ x1 then (if x1 < (x0.size : Int) then (if (bt x0 x1) = 48 then (whirligigref02_number.j2 k x0 x1 x7 (decide (x7 > (wrap64 (x1 + 1))))) else (whirligigref02_number.j2 k x0 x1 x7 false)) else (none)) else (none)
def whirligigref02_number.j2 : Nat → ByteArray → Int → Int → Bool → Option (Int × ByteArray × Int × Int × Int × Int)
 | 0, _, _, _, _ => none
 | k + 1, x0, x1, x7, x38 => if x38 = true then (some (0, (⟨#[]⟩ : ByteArray), 0, 0, x1, 11)) else (if 0 ≤ x1 then (if x1 ≤ x7 then (if x7 ≤ (x0.size : Int) then ((whirligigref01_Number.f k (x0.extract (x1 : Int).toNat (x7 : Int).toNat)).bind fun bt181 => (if bt181.2 = true then (some (3, x0.extract (x1 : Int).toNat (x7 : Int).toNat, bt181.1, x1, x7, 0)) else (some (0, (⟨#[]⟩ : ByteArray), 0, 0, x1, 21)))) else (none)) else (none)) else (none))
def whirligigref02_number.l0 : Nat → ByteArray → Int → Int → Option (Int × ByteArray × Int × Int × Int × Int)
 | 0, _, _, _ => none
 | k + 1, x0, x1, x7 => if x7 < (x0.size : Int) then (if 0 ≤ x7 then (if (bt x0 x7) ≥ 48 then (if (bt x0 x7) ≤ 57 then (whirligigref02_number.l0 k x0 x1 (wrap64 (x7 + 1))) else (whirligigref02_number.j1 k x0 x1 x7)) else (whirligigref02_number.j1 k x0 x1 x7)) else (none)) else (whirligigref02_number.j1 k x0 x1 x7)
end
def whirligigref02_number.f (k : Nat) (a0 : ByteArray) (a1 : Int) : Option (Int × ByteArray × Int × Int × Int × Int) := whirligigref02_number.l0 k a0 a1 a1
set_option maxHeartbeats 8000000 in
set_option maxRecDepth 100000 in
theorem whirligigref02_number.calls (k : Nat) (a0 : ByteArray) (a1 : Int) (r1 : Int) (r2 : ByteArray) (r3 : Int) (r4 : Int) (r5 : Int) (r6 : Int) (w : World) (h : whirligigref02_number.f k a0 a1 = some (r1, r2, r3, r4, r5, r6)) :
  Calls Tryd.prog 110 #[.string a0, .int .i64 a1] w fun e w' => e = .returned (.tuple #[.agg #[.int .i64 r1, .string r2, .int .i64 r3, .int .i64 r4], .int .i64 r5, .int .i64 r6]) ∧ Below w.heap.size w w' := by
 have hu31 := Tryd.underlying31
 have HB := Aside0.mk (Below.refl w.heap.size w)
 have H : (whirligigref02_number.l0 k a0 a1 a1) = some (r1, r2, r3, r4, r5, r6) := h
 clear h
 have HC3 := Aside0.mk H
 clear H
 go_enter Tryd.func110, Tryd.ntmps110
 go_upto_block 0 with (first | ((with_reducible refine gd 4 rfl ?_); refine bxx 4 #[.int .i64 0, .string (⟨#[]⟩ : ByteArray), .int .i64 0, .int .i64 0] 31 ?_; intro gb180 w4 BK180 GW180 HB))
 (try simp only [Act.put, List.setIfInBounds_toArray, List.set_cons_zero, List.set_cons_succ])
 go_cut [7] (fun v7 wc => ∃ (kq : Nat) (x7_2 : Int), v7 = .int .i64 x7_2 ∧ Aside0 (whirligigref02_number.j1 kq a0 a1 x7_2 = some (r1, r2, r3, r4, r5, r6)) ∧ Aside0 (kq ≤ k) ∧ Aside0 (wc.heap[gb180]? = some (.cells #[.int .i64 0, .string (⟨#[]⟩ : ByteArray), .int .i64 0, .int .i64 0] 31 (0, 0))) ∧ Aside0 (Below w.heap.size w wc))
 case first =>
  have H := HC3.out
  clear HC3
  have H' := Aside0.mk H
  clear H
  go_wp2
  go_loopg [7] k (fun kq v7 w' => ∃ (x7_1 : Int), v7 = .int .i64 x7_1 ∧ Aside0 (whirligigref02_number.l0 kq a0 a1 x7_1 = some (r1, r2, r3, r4, r5, r6)) ∧ Aside0 (kq ≤ k) ∧ Aside0 (w'.heap[gb180]? = some (.cells #[.int .i64 0, .string (⟨#[]⟩ : ByteArray), .int .i64 0, .int .i64 0] 31 (0, 0))) ∧ Aside0 (Below w.heap.size w w'))
  case atStart => exact ⟨(a1), qE, H', ⟨Nat.le_refl _⟩, ⟨qK⟩, ⟨qB⟩⟩
  case round =>
   clear H'
   try clear p2
   obtain ⟨x7_1, rfl, HA, HK1, BK180, HB⟩ := hrel
   cases gk with
   | zero => exact absurd HA.out (by simp [whirligigref02_number.l0])
   | succ k1 =>
    have H := HA.out
    clear HA
    simp only [whirligigref02_number.l0] at H
    replace H := iD H
    rcases H with ⟨c5b0, H⟩ | ⟨c5b0, H⟩
    ·(first | rw [c5b0] | (simp only [i64_w, i32_w]; rw [c5b0]) | skip); replace H := iD H
     rcases H with ⟨c6b0, H⟩ | ⟨c6b0, H⟩
     ·by_cases c8 : (bt a0 x7_1) ≥ 48
      ·rw [if_pos c8] at H; have c8b0 := decide_eq_true c8; clear c8; replace H := iD H
       rcases H with ⟨c10b0, H⟩ | ⟨c10b0, H⟩
       ·have H' := Aside0.mk H; clear H; have p7 : 0 ≤ (x7_1 : Int) := qD; have q7 : x7_1 < (a0.size : Int) := qD; have hx7 := bt_at a0 x7_1; replace p7 := eq_true p7; replace q7 := eq_true q7; have p9 : 0 ≤ (x7_1 : Int) := qD; have q9 : x7_1 < (a0.size : Int) := qD; have hx9 := bt_at a0 x7_1; replace p9 := eq_true p9; replace q9 := eq_true q9
        go_wp2
        go_roundg k1
        case measure => have := HK1.out; omega
        case rel => exact ⟨(wrap64 (x7_1 + 1)), qE, H', ⟨by have := HK1.out; omega⟩, ⟨qK⟩, ⟨qB⟩⟩
       have H' := Aside0.mk H; clear H; have p7 : 0 ≤ (x7_1 : Int) := qD; have q7 : x7_1 < (a0.size : Int) := qD; have hx7 := bt_at a0 x7_1; replace p7 := eq_true p7; replace q7 := eq_true q7; have p9 : 0 ≤ (x7_1 : Int) := qD; have q9 : x7_1 < (a0.size : Int) := qD; have hx9 := bt_at a0 x7_1; replace p9 := eq_true p9; replace q9 := eq_true q9
       go_wp2
       go_meet
       case rel => exact ⟨_, (x7_1), qE, H', ⟨by have := HK1.out; first | omega | exact Nat.le_refl _⟩, ⟨qK⟩, ⟨qB⟩⟩
      rw [if_neg c8] at H; have c8b0 := decide_eq_false c8; clear c8; have H' := Aside0.mk H; clear H; have p7 : 0 ≤ (x7_1 : Int) := qD; have q7 : x7_1 < (a0.size : Int) := qD; have hx7 := bt_at a0 x7_1; replace p7 := eq_true p7; replace q7 := eq_true q7
      go_wp2
      go_meet
      case rel => exact ⟨_, (x7_1), qE, H', ⟨by have := HK1.out; first | omega | exact Nat.le_refl _⟩, ⟨qK⟩, ⟨qB⟩⟩
     exact absurd H (by simp)
    (first | rw [c5b0] | (simp only [i64_w, i32_w]; rw [c5b0]) | skip)
    have H' := Aside0.mk H
    clear H
    go_wp2
    go_meet
    case rel => exact ⟨_, (x7_1), qE, H', ⟨by have := HK1.out; first | omega | exact Nat.le_refl _⟩, ⟨qK⟩, ⟨qB⟩⟩
 case rest =>
  clear HC3
  try clear p2 p2
  try clear p6
  try clear p7 p7
  try clear q7 q7
  try clear hx7
  try clear p9 p9
  try clear q9 q9
  try clear hx9
  obtain ⟨kq, x7_2, rfl, HA, HJ2, BK180, HB⟩ := hcut
  cases kq with
  | zero => exact absurd HA.out (by simp [whirligigref02_number.j1])
  | succ kj2 =>
   have H := HA.out
   clear HA
   simp only [whirligigref02_number.j1] at H
   have HC11 := Aside0.mk H
   clear H
   go_upto_region 4 with (fail)
   go_cut [38] (fun v38 wc => ∃ (kq : Nat) (x38_10 : Bool), v38 = .bool x38_10 ∧ Aside0 (whirligigref02_number.j2 kq a0 a1 x7_2 x38_10 = some (r1, r2, r3, r4, r5, r6)) ∧ Aside0 (kq ≤ kj2) ∧ Aside0 (wc.heap[gb180]? = some (.cells #[.int .i64 0, .string (⟨#[]⟩ : ByteArray), .int .i64 0, .int .i64 0] 31 (0, 0))) ∧ Aside0 (Below w.heap.size w wc))
   case first =>
    have H := HC11.out
    clear HC11
    replace H := iD H
    rcases H with ⟨c12b0, H⟩ | ⟨c12b0, H⟩
    ·(first | rw [c12b0] | (simp only [i64_w, i32_w]; rw [c12b0]) | skip); replace H := iD H
     rcases H with ⟨c13b0, H⟩ | ⟨c13b0, H⟩
     ·by_cases c15 : (bt a0 a1) = 48
      ·rw [if_pos c15] at H; have c15b0 := beq_iff_eq.mpr c15; have c15b1 := bne_eq_false_iff_eq.mpr c15; clear c15; have H' := Aside0.mk H; clear H; have p14 : 0 ≤ (a1 : Int) := qD; have q14 : a1 < (a0.size : Int) := qD; have hx14 := bt_at a0 a1; replace p14 := eq_true p14; replace q14 := eq_true q14
       go_wp2
       go_meet
       case rel => exact ⟨_, (decide (x7_2 > (wrap64 (a1 + 1)))), qE, H', ⟨by have := HJ2.out; first | omega | exact Nat.le_refl _⟩, ⟨qK⟩, ⟨qB⟩⟩
      rw [if_neg c15] at H; have c15b0 := beq_eq_false_iff_ne.mpr c15; have c15b1 := bne_iff_ne.mpr c15; have H' := Aside0.mk H; clear H; have p14 : 0 ≤ (a1 : Int) := qD; have q14 : a1 < (a0.size : Int) := qD; have hx14 := bt_at a0 a1; replace p14 := eq_true p14; replace q14 := eq_true q14
      go_wp2
      go_meet
      case rel => exact ⟨_, (false), qE, H', ⟨by have := HJ2.out; first | omega | exact Nat.le_refl _⟩, ⟨qK⟩, ⟨qB⟩⟩
     exact absurd H (by simp)
    exact absurd H (by simp)
   case rest =>
    clear HC11
    try clear p1
    try clear q1
    try clear hx1
    try clear p2 p2
    try clear p6 p6
    try clear p7 p7
    try clear q7 q7
    try clear hx7
    try clear p9 p9
    try clear q9 q9
    try clear hx9
    try clear p14 p14
    try clear q14 q14
    try clear hx14
    obtain ⟨kq, x38_10, rfl, HA, HJ10, BK180, HB⟩ := hcut
    cases kq with
    | zero => exact absurd HA.out (by simp [whirligigref02_number.j2])
    | succ kj10 =>
     have H := HA.out; clear HA; simp only [whirligigref02_number.j2] at H
     by_cases c16 : x38_10 = true
     ·subst c16; rw [if_pos rfl] at H; simp only [Option.some.injEq, Prod.mk.injEq] at H; obtain ⟨rfl, rfl, rfl, rfl, rfl, rfl⟩ := H; obtain ⟨_, _, _, _, _, _, _, _⟩ := cells4 BK180.out
      go_wp2
      refine bodyPost_ret (results_ctt rfl _ _ gb180 31 #[.int .i64 0, .string (⟨#[]⟩ : ByteArray), .int .i64 0, .int .i64 0] (0, 0) _ rfl qP Tryd.underlying31 rfl (by kernel_rfl)) rfl ?_; exact ⟨qR, qB⟩
     replace c16 := Bool.eq_false_iff.mpr c16; subst c16; rw [if_neg (show ¬ (false = true) by decide)] at H
     by_cases c18 : 0 ≤ a1
     ·rw [if_pos c18] at H; have c18b0 := eq_true c18; have c18b1 := decide_eq_true c18; clear c18
      by_cases c19 : a1 ≤ x7_2
      ·rw [if_pos c19] at H; have c19b0 := eq_true c19; have c19b1 := decide_eq_true c19; clear c19
       by_cases c20 : x7_2 ≤ (a0.size : Int)
       ·rw [if_pos c20] at H; have c20b0 := eq_true c20; have c20b1 := decide_eq_true c20; clear c20; replace H := Option.bind_eq_some_iff.mp H; obtain ⟨⟨t181, t182⟩, A210, H⟩ := H; (try dsimp -simprocs only at H); have A21 := Aside0.mk A210; clear A210
        by_cases c22 : t182 = true
        ·subst c22; rw [if_pos rfl] at H; have c23b0 := eq_true (qD : 0 ≤ a1); have c24b0 := eq_true (qD : a1 ≤ x7_2); have c25b0 := eq_true (qD : x7_2 ≤ (a0.size : Int)); simp only [Option.some.injEq, Prod.mk.injEq] at H; obtain ⟨rfl, rfl, rfl, rfl, rfl, rfl⟩ := H
         go_wp2_with (first | ((with_reducible refine gc 135 rfl ?_); refine gl (some 46) #[.string (a0.extract (a1 : Int).toNat (x7_2 : Int).toNat)] Tryd.func135 ?_; (with_reducible refine (whirligigref01_Number.calls kj10 (a0.extract (a1 : Int).toNat (x7_2 : Int).toNat) t181 true _ A21.out).mono ?_); rintro e w26 ⟨rfl, hb⟩; refine ⟨_, rfl, ?_⟩; replace BK180 := kb gb180 hb; replace HB := bst hb; (try clear hb); obtain ⟨_, _, _, _, _, _, _, _⟩ := cells4 BK180.out))
         refine bodyPost_ret (results_ctt rfl _ _ gb180 31 #[.int .i64 3, .string (a0.extract (a1 : Int).toNat (x7_2 : Int).toNat), .int .i64 t181, .int .i64 a1] (0, 0) _ rfl qP Tryd.underlying31 rfl (by kernel_rfl)) rfl ?_; exact ⟨qR, qB⟩
        replace c22 := Bool.eq_false_iff.mpr c22; subst c22; rw [if_neg (show ¬ (false = true) by decide)] at H; simp only [Option.some.injEq, Prod.mk.injEq] at H; obtain ⟨rfl, rfl, rfl, rfl, rfl, rfl⟩ := H
        go_wp2_with (first | ((with_reducible refine gc 135 rfl ?_); refine gl (some 46) #[.string (a0.extract (a1 : Int).toNat (x7_2 : Int).toNat)] Tryd.func135 ?_; (with_reducible refine (whirligigref01_Number.calls kj10 (a0.extract (a1 : Int).toNat (x7_2 : Int).toNat) t181 false _ A21.out).mono ?_); rintro e w28 ⟨rfl, hb⟩; refine ⟨_, rfl, ?_⟩; replace BK180 := kb gb180 hb; replace HB := bst hb; (try clear hb); obtain ⟨_, _, _, _, _, _, _, _⟩ := cells4 BK180.out))
        refine bodyPost_ret (results_ctt rfl _ _ gb180 31 #[.int .i64 0, .string (⟨#[]⟩ : ByteArray), .int .i64 0, .int .i64 0] (0, 0) _ rfl qP Tryd.underlying31 rfl (by kernel_rfl)) rfl ?_; exact ⟨qR, qB⟩
       rw [if_neg c20] at H; exact absurd H (by simp)
      rw [if_neg c19] at H; exact absurd H (by simp)
     rw [if_neg c18] at H; exact absurd H (by simp)
def whirligigref01_Plain.l0 : Nat → ByteArray → Int → Option (Bool)
 | 0, _, _ => none
 | k + 1, x0, x3 => if x3 < (x0.size : Int) then (if 0 ≤ x3 then (if (bt x0 x3) < 32 then (some false) else (if (bt x0 x3) > 126 then (some false) else (if (bt x0 x3) = 39 then (some false) else (whirligigref01_Plain.l0 k x0 (wrap64 (x3 + 1)))))) else (none)) else (some true)
def whirligigref01_Plain.f (k : Nat) (a0 : ByteArray) : Option (Bool) := if (a0.size : Int) > 48 then (some false) else (whirligigref01_Plain.l0 k a0 0)
set_option maxHeartbeats 8000000 in
set_option maxRecDepth 100000 in
theorem whirligigref01_Plain.calls (k : Nat) (a0 : ByteArray) (r : Bool) (w : World) (h : whirligigref01_Plain.f k a0 = some r) :
  Calls Tryd.prog 122 #[.string a0] w fun e w' => e = .returned (.bool r) ∧ Drawn0 w w' := by
 have H : (if (a0.size : Int) > 48 then (some false) else (whirligigref01_Plain.l0 k a0 0)) = some r := h
 clear h
 by_cases c2 : (a0.size : Int) > 48
 ·rw [if_pos c2] at H
  have c2b0 := decide_eq_true c2
  have c2b1 : decide (48 < a0.size) = true := decide_eq_true (by omega)
  clear c2
  obtain rfl := Option.some.inj H
  go_enter Tryd.func122, Tryd.ntmps122
  go_wp2
  go_ret
  exact qN
 rw [if_neg c2] at H
 have c2b0 := decide_eq_false c2
 have c2b1 : decide (48 < a0.size) = false := decide_eq_false (by omega)
 clear c2
 have H' := Aside0.mk H
 clear H
 go_enter Tryd.func122, Tryd.ntmps122
 go_wp2
 go_loopg [3] k (fun kq v3 w' => ∃ (x3_1 : Int), v3 = .int .i64 x3_1 ∧ Aside0 (whirligigref01_Plain.l0 kq a0 x3_1 = some r) ∧ Aside0 (kq ≤ k) ∧ Drawn0 w w')
 case atStart => exact ⟨(0), qE, H', ⟨Nat.le_refl _⟩, by repeat (first | exact Drawn0.refl _ | apply Drawn0.step)⟩
 case round =>
  clear H'
  try clear p2
  obtain ⟨x3_1, rfl, HA, HK1, ⟨m1, rfl⟩⟩ := hrel
  cases gk with
  | zero => exact absurd HA.out (by simp [whirligigref01_Plain.l0])
  | succ k1 =>
   have H := HA.out
   clear HA
   simp only [whirligigref01_Plain.l0] at H
   replace H := iD H
   rcases H with ⟨c3b0, H⟩ | ⟨c3b0, H⟩
   ·by_cases c4 : 0 ≤ x3_1
    ·rw [if_pos c4] at H; have c4b0 := decide_eq_true c4; clear c4; replace H := iD H
     rcases H with ⟨c6b0, H⟩ | ⟨c6b0, H⟩
     ·obtain rfl := Option.some.inj H; have p5 : 0 ≤ (x3_1 : Int) := qD; have q5 : x3_1 < (a0.size : Int) := qD; have hx5 := bt_at a0 x3_1; replace p5 := eq_true p5; replace q5 := eq_true q5
      go_wp2
      go_ret; exact qN
     by_cases c8 : (bt a0 x3_1) > 126
     ·rw [if_pos c8] at H; have c8b0 := decide_eq_true c8; clear c8; obtain rfl := Option.some.inj H; have p5 : 0 ≤ (x3_1 : Int) := qD; have q5 : x3_1 < (a0.size : Int) := qD; have hx5 := bt_at a0 x3_1; replace p5 := eq_true p5; replace q5 := eq_true q5; have p7 : 0 ≤ (x3_1 : Int) := qD; have q7 : x3_1 < (a0.size : Int) := qD; have hx7 := bt_at a0 x3_1; replace p7 := eq_true p7; replace q7 := eq_true q7
      go_wp2
      go_ret; exact qN
     rw [if_neg c8] at H; have c8b0 := decide_eq_false c8; clear c8
     by_cases c10 : (bt a0 x3_1) = 39
     ·rw [if_pos c10] at H; have c10b0 := beq_iff_eq.mpr c10; have c10b1 := bne_eq_false_iff_eq.mpr c10; clear c10; obtain rfl := Option.some.inj H; have p5 : 0 ≤ (x3_1 : Int) := qD; have q5 : x3_1 < (a0.size : Int) := qD; have hx5 := bt_at a0 x3_1; replace p5 := eq_true p5; replace q5 := eq_true q5; have p7 : 0 ≤ (x3_1 : Int) := qD; have q7 : x3_1 < (a0.size : Int) := qD; have hx7 := bt_at a0 x3_1; replace p7 := eq_true p7; replace q7 := eq_true q7; have p9 : 0 ≤ (x3_1 : Int) := qD; have q9 : x3_1 < (a0.size : Int) := qD; have hx9 := bt_at a0 x3_1; replace p9 := eq_true p9; replace q9 := eq_true q9
      go_wp2
      go_ret; exact qN
     rw [if_neg c10] at H; have c10b0 := beq_eq_false_iff_ne.mpr c10; have c10b1 := bne_iff_ne.mpr c10; have H' := Aside0.mk H; clear H; have p5 : 0 ≤ (x3_1 : Int) := qD; have q5 : x3_1 < (a0.size : Int) := qD; have hx5 := bt_at a0 x3_1; replace p5 := eq_true p5; replace q5 := eq_true q5; have p7 : 0 ≤ (x3_1 : Int) := qD; have q7 : x3_1 < (a0.size : Int) := qD; have hx7 := bt_at a0 x3_1; replace p7 := eq_true p7; replace q7 := eq_true q7; have p9 : 0 ≤ (x3_1 : Int) := qD; have q9 : x3_1 < (a0.size : Int) := qD; have hx9 := bt_at a0 x3_1; replace p9 := eq_true p9; replace q9 := eq_true q9
     go_wp2
     go_roundg k1
     case measure => have := HK1.out; omega
     case rel => exact ⟨(wrap64 (x3_1 + 1)), qE, H', ⟨by have := HK1.out; omega⟩, by repeat (first | exact Drawn0.refl _ | apply Drawn0.step)⟩
    rw [if_neg c4] at H
    exact absurd H (by simp)
   obtain rfl := Option.some.inj H
   go_wp2
   go_ret
   exact qN
mutual
def whirligigref02_quote.j1 : Nat → ByteArray → Int → Int → Option (Int × ByteArray × Int × Int × Int × Int)
 | 0, _, _, _ => none
 | k + 1, x0, x1, x7 => if x7 ≥ (x0.size : Int) then (some (0, (⟨#[]⟩ : ByteArray), 0, 0, x1, 14)) else (if (wrap64 ((wrap64 (x7 - x1)) - 1)) > 48 then (some (0, (⟨#[]⟩ : ByteArray), 0, 0, x1, 15)) else (if 0 ≤ (wrap64 (x1 + 1)) then (if (wrap64 (x1 + 1)) ≤ x7 then (if x7 ≤ (x0.size : Int) then ((whirligigref01_Plain.f k (x0.extract ((wrap64 (x1 + 1)) : Int).toNat (x7 : Int).toNat)).bind fun t184 => (if t184 = true then (some (4, x0.extract ((wrap64 (x1 + 1)) : Int).toNat (x7 : Int).toNat, 0, x1, wrap64 (x7 + 1), 0)) else (some (0, (⟨#[]⟩ : ByteArray), 0, 0, x1, 11)))) else (none)) else (none)) else (none)))
def whirligigref02_quote.l0 : Nat → ByteArray → Int → Int → Option (Int × ByteArray × Int × Int × Int × Int)
 | 0, _, _, _ => none
 | k + 1, x0, x1, x7 => if x7 < (x0.size : Int) then (if 0 ≤ x7 then (if (bt x0 x7) = 39 then (whirligigref02_quote.j1 k x0 x1 x7) else (whirligigref02_quote.l0 k x0 x1 (wrap64 (x7 + 1)))) else (none)) else (whirligigref02_quote.j1 k x0 x1 x7)
end
def whirligigref02_quote.f (k : Nat) (a0 : ByteArray) (a1 : Int) : Option (Int × ByteArray × Int × Int × Int × Int) := whirligigref02_quote.l0 k a0 a1 (wrap64 (a1 + 1))
set_option maxHeartbeats 8000000 in
set_option maxRecDepth 100000 in
theorem whirligigref02_quote.calls (k : Nat) (a0 : ByteArray) (a1 : Int) (r1 : Int) (r2 : ByteArray) (r3 : Int) (r4 : Int) (r5 : Int) (r6 : Int) (w : World) (h : whirligigref02_quote.f k a0 a1 = some (r1, r2, r3, r4, r5, r6)) :
  Calls Tryd.prog 111 #[.string a0, .int .i64 a1] w fun e w' => e = .returned (.tuple #[.agg #[.int .i64 r1, .string r2, .int .i64 r3, .int .i64 r4], .int .i64 r5, .int .i64 r6]) ∧ Below w.heap.size w w' := by
 have hu31 := Tryd.underlying31
 have HB := Aside0.mk (Below.refl w.heap.size w)
 have H : (whirligigref02_quote.l0 k a0 a1 (wrap64 (a1 + 1))) = some (r1, r2, r3, r4, r5, r6) := h
 clear h
 have HC3 := Aside0.mk H
 clear H
 go_enter Tryd.func111, Tryd.ntmps111
 go_upto_block 0 with (first | ((with_reducible refine gd 4 rfl ?_); refine bxx 4 #[.int .i64 0, .string (⟨#[]⟩ : ByteArray), .int .i64 0, .int .i64 0] 31 ?_; intro gb183 w4 BK183 GW183 HB))
 (try simp only [Act.put, List.setIfInBounds_toArray, List.set_cons_zero, List.set_cons_succ])
 go_cut [7] (fun v7 wc => ∃ (kq : Nat) (x7_2 : Int), v7 = .int .i64 x7_2 ∧ Aside0 (whirligigref02_quote.j1 kq a0 a1 x7_2 = some (r1, r2, r3, r4, r5, r6)) ∧ Aside0 (kq ≤ k) ∧ Aside0 (wc.heap[gb183]? = some (.cells #[.int .i64 0, .string (⟨#[]⟩ : ByteArray), .int .i64 0, .int .i64 0] 31 (0, 0))) ∧ Aside0 (Below w.heap.size w wc))
 case first =>
  have H := HC3.out
  clear HC3
  have H' := Aside0.mk H
  clear H
  go_wp2
  go_loopg [7] k (fun kq v7 w' => ∃ (x7_1 : Int), v7 = .int .i64 x7_1 ∧ Aside0 (whirligigref02_quote.l0 kq a0 a1 x7_1 = some (r1, r2, r3, r4, r5, r6)) ∧ Aside0 (kq ≤ k) ∧ Aside0 (w'.heap[gb183]? = some (.cells #[.int .i64 0, .string (⟨#[]⟩ : ByteArray), .int .i64 0, .int .i64 0] 31 (0, 0))) ∧ Aside0 (Below w.heap.size w w'))
  case atStart => exact ⟨(wrap64 (a1 + 1)), qE, H', ⟨Nat.le_refl _⟩, ⟨qK⟩, ⟨qB⟩⟩
  case round =>
   clear H'
   try clear p2
   obtain ⟨x7_1, rfl, HA, HK1, BK183, HB⟩ := hrel
   cases gk with
   | zero => exact absurd HA.out (by simp [whirligigref02_quote.l0])
   | succ k1 =>
    have H := HA.out
    clear HA
    simp only [whirligigref02_quote.l0] at H
    replace H := iD H
    rcases H with ⟨c5b0, H⟩ | ⟨c5b0, H⟩
    ·(first | rw [c5b0] | (simp only [i64_w, i32_w]; rw [c5b0]) | skip); replace H := iD H
     rcases H with ⟨c6b0, H⟩ | ⟨c6b0, H⟩
     ·by_cases c8 : (bt a0 x7_1) = 39
      ·rw [if_pos c8] at H; have c8b0 := beq_iff_eq.mpr c8; have c8b1 := bne_eq_false_iff_eq.mpr c8; clear c8; have H' := Aside0.mk H; clear H; have p7 : 0 ≤ (x7_1 : Int) := qD; have q7 : x7_1 < (a0.size : Int) := qD; have hx7 := bt_at a0 x7_1; replace p7 := eq_true p7; replace q7 := eq_true q7
       go_wp2
       go_meet
       case rel => exact ⟨_, (x7_1), qE, H', ⟨by have := HK1.out; first | omega | exact Nat.le_refl _⟩, ⟨qK⟩, ⟨qB⟩⟩
      rw [if_neg c8] at H; have c8b0 := beq_eq_false_iff_ne.mpr c8; have c8b1 := bne_iff_ne.mpr c8; have H' := Aside0.mk H; clear H; have p7 : 0 ≤ (x7_1 : Int) := qD; have q7 : x7_1 < (a0.size : Int) := qD; have hx7 := bt_at a0 x7_1; replace p7 := eq_true p7; replace q7 := eq_true q7
      go_wp2
      go_roundg k1
      case measure => have := HK1.out; omega
      case rel => exact ⟨(wrap64 (x7_1 + 1)), qE, H', ⟨by have := HK1.out; omega⟩, ⟨qK⟩, ⟨qB⟩⟩
     exact absurd H (by simp)
    (first | rw [c5b0] | (simp only [i64_w, i32_w]; rw [c5b0]) | skip)
    have H' := Aside0.mk H
    clear H
    go_wp2
    go_meet
    case rel => exact ⟨_, (x7_1), qE, H', ⟨by have := HK1.out; first | omega | exact Nat.le_refl _⟩, ⟨qK⟩, ⟨qB⟩⟩
 case rest =>
  clear HC3
  try clear p2 p2
  try clear p6
  try clear p7 p7
  try clear q7 q7
  try clear hx7
  obtain ⟨kq, x7_2, rfl, HA, HJ2, BK183, HB⟩ := hcut
  cases kq with
  | zero => exact absurd HA.out (by simp [whirligigref02_quote.j1])
  | succ kj2 =>
   have H := HA.out
   clear HA
   simp only [whirligigref02_quote.j1] at H
   replace H := iD H
   rcases H with ⟨c9b0, H⟩ | ⟨c9b0, H⟩
   ·simp only [Option.some.injEq, Prod.mk.injEq] at H
    obtain ⟨rfl, rfl, rfl, rfl, rfl, rfl⟩ := H
    obtain ⟨_, _, _, _, _, _, _, _⟩ := cells4 BK183.out
    go_wp2
    refine bodyPost_ret (results_ctt rfl _ _ gb183 31 #[.int .i64 0, .string (⟨#[]⟩ : ByteArray), .int .i64 0, .int .i64 0] (0, 0) _ rfl qP Tryd.underlying31 rfl (by kernel_rfl)) rfl ?_
    exact ⟨qR, qB⟩
   by_cases c11 : (wrap64 ((wrap64 (x7_2 - a1)) - 1)) > 48
   ·rw [if_pos c11] at H
    have c11b0 := decide_eq_true c11
    clear c11
    simp only [Option.some.injEq, Prod.mk.injEq] at H
    obtain ⟨rfl, rfl, rfl, rfl, rfl, rfl⟩ := H
    obtain ⟨_, _, _, _, _, _, _, _⟩ := cells4 BK183.out
    go_wp2
    refine bodyPost_ret (results_ctt rfl _ _ gb183 31 #[.int .i64 0, .string (⟨#[]⟩ : ByteArray), .int .i64 0, .int .i64 0] (0, 0) _ rfl qP Tryd.underlying31 rfl (by kernel_rfl)) rfl ?_
    exact ⟨qR, qB⟩
   rw [if_neg c11] at H
   have c11b0 := decide_eq_false c11
   clear c11
   obtain ⟨ji13, hji13⟩ : ∃ j_ : Int, (wrap64 (a1 + 1)) = j_ := ⟨_, rfl⟩
   replace H : (if 0 ≤ (ji13) then (if (ji13) ≤ x7_2 then (if x7_2 ≤ (a0.size : Int) then ((whirligigref01_Plain.f kj2 (a0.extract ((ji13) : Int).toNat (x7_2 : Int).toNat)).bind fun t184 => (if t184 = true then (some (4, a0.extract ((ji13) : Int).toNat (x7_2 : Int).toNat, 0, a1, wrap64 (x7_2 + 1), 0)) else (some (0, (⟨#[]⟩ : ByteArray), 0, 0, a1, 11)))) else (none)) else (none)) else (none)) = some (r1, r2, r3, r4, r5, r6) := by first | (rw [hji13] at H; exact H) | (simp only [hji13] at H ⊢; exact H)
   have hji13w : (IntKind.i64.wrap (a1 + 1)) = ji13 := (i64_w _).trans hji13
   by_cases c14 : 0 ≤ (ji13)
   ·rw [if_pos c14] at H
    have c14b0 := eq_true c14
    have c14b1 := decide_eq_true c14
    clear c14
    by_cases c15 : (ji13) ≤ x7_2
    ·rw [if_pos c15] at H; have c15b0 := eq_true c15; have c15b1 := decide_eq_true c15; clear c15
     by_cases c16 : x7_2 ≤ (a0.size : Int)
     ·rw [if_pos c16] at H; have c16b0 := eq_true c16; have c16b1 := decide_eq_true c16; clear c16; replace H := Option.bind_eq_some_iff.mp H; obtain ⟨t184, A170, H⟩ := H; (try dsimp -simprocs only at H); have A17 := Aside0.mk A170; clear A170
      by_cases c18 : t184 = true
      ·subst c18; rw [if_pos rfl] at H; have c19b0 := eq_true (qD : 0 ≤ (ji13)); have c20b0 := eq_true (qD : (ji13) ≤ x7_2); have c21b0 := eq_true (qD : x7_2 ≤ (a0.size : Int)); simp only [Option.some.injEq, Prod.mk.injEq] at H; obtain ⟨rfl, rfl, rfl, rfl, rfl, rfl⟩ := H
       go_wp2_with (first | ((with_reducible refine gate_callee (f := 122) rfl ?_); refine goesL_ (some 40) rfl rfl Tryd.func122 (by kernel_rfl) rfl #[.string (a0.extract ((ji13) : Int).toNat (x7_2 : Int).toNat)] rfl (by (try simp only [List.map_toArray, List.map_cons, List.map_nil]); first | done | (simp only [hji13]; rfl) | rfl | (simp only [List.length_drop, List.length_take]; rfl)) ?_; (with_reducible refine (whirligigref01_Plain.calls kj2 (a0.extract ((ji13) : Int).toNat (x7_2 : Int).toNat) true _ A17.out).mono ?_); rintro e w' ⟨rfl, ⟨nd, rfl⟩⟩; refine ⟨_, rfl, ?_⟩; (try (rw [drewN_self wc]; generalize hq_ : World.drewN wc _ = wc; have n0_ : Aside0 (wc.heap[gb183]? = some (.cells #[.int .i64 0, .string (⟨#[]⟩ : ByteArray), .int .i64 0, .int .i64 0] 31 (0, 0))) := ⟨by rw [← hq_]; exact qK⟩; have n1_ : Aside0 (Below w.heap.size w wc) := ⟨by rw [← hq_]; exact qB⟩; clear BK183 HB hq_; have BK183 := n0_; have HB := n1_; clear n0_ n1_)); obtain ⟨_, _, _, _, _, _, _, _⟩ := cells4 BK183.out))
       refine bodyPost_ret (results_ctt rfl _ _ gb183 31 #[.int .i64 4, .string (a0.extract ((ji13) : Int).toNat (x7_2 : Int).toNat), .int .i64 0, .int .i64 a1] (0, 0) _ rfl qP Tryd.underlying31 rfl (by kernel_rfl)) rfl ?_; exact ⟨by first | rfl | (simp [errW_none, errW_some] <;> rfl) | (simp only [← hji13]; first | rfl | (simp [errW_none, errW_some] <;> rfl)) | (simp [*, errW_none, errW_some] <;> rfl), qB⟩
      replace c18 := Bool.eq_false_iff.mpr c18; subst c18; rw [if_neg (show ¬ (false = true) by decide)] at H; simp only [Option.some.injEq, Prod.mk.injEq] at H; obtain ⟨rfl, rfl, rfl, rfl, rfl, rfl⟩ := H
      go_wp2_with (first | ((with_reducible refine gate_callee (f := 122) rfl ?_); refine goesL_ (some 40) rfl rfl Tryd.func122 (by kernel_rfl) rfl #[.string (a0.extract ((ji13) : Int).toNat (x7_2 : Int).toNat)] rfl (by (try simp only [List.map_toArray, List.map_cons, List.map_nil]); first | done | (simp only [hji13]; rfl) | rfl | (simp only [List.length_drop, List.length_take]; rfl)) ?_; (with_reducible refine (whirligigref01_Plain.calls kj2 (a0.extract ((ji13) : Int).toNat (x7_2 : Int).toNat) false _ A17.out).mono ?_); rintro e w' ⟨rfl, ⟨nd, rfl⟩⟩; refine ⟨_, rfl, ?_⟩; (try (rw [drewN_self wc]; generalize hq_ : World.drewN wc _ = wc; have n0_ : Aside0 (wc.heap[gb183]? = some (.cells #[.int .i64 0, .string (⟨#[]⟩ : ByteArray), .int .i64 0, .int .i64 0] 31 (0, 0))) := ⟨by rw [← hq_]; exact qK⟩; have n1_ : Aside0 (Below w.heap.size w wc) := ⟨by rw [← hq_]; exact qB⟩; clear BK183 HB hq_; have BK183 := n0_; have HB := n1_; clear n0_ n1_)); obtain ⟨_, _, _, _, _, _, _, _⟩ := cells4 BK183.out))
      refine bodyPost_ret (results_ctt rfl _ _ gb183 31 #[.int .i64 0, .string (⟨#[]⟩ : ByteArray), .int .i64 0, .int .i64 0] (0, 0) _ rfl qP Tryd.underlying31 rfl (by kernel_rfl)) rfl ?_; exact ⟨by first | rfl | (simp [errW_none, errW_some] <;> rfl) | (simp only [← hji13]; first | rfl | (simp [errW_none, errW_some] <;> rfl)) | (simp [*, errW_none, errW_some] <;> rfl), qB⟩
     rw [if_neg c16] at H; exact absurd H (by simp)
    rw [if_neg c15] at H
    exact absurd H (by simp)
   rw [if_neg c14] at H
   exact absurd H (by simp)
mutual
def whirligigref02_sign.j0 : Nat → ByteArray → Int → Int → Bool → Option (Int × ByteArray × Int × Int × Int × Int)
 | 0, _, _, _, _ => none
 | k + 1, x0, x1, x7, x36 => if x36 = true then (if 0 ≤ x1 then (if x1 ≤ (wrap64 (x1 + 2)) then (if (wrap64 (x1 + 2)) ≤ (x0.size : Int) then (some (5, x0.extract (x1 : Int).toNat ((wrap64 (x1 + 2)) : Int).toNat, 0, x1, wrap64 (x1 + 2), 0)) else (none)) else (none)) else (none)) else (whirligigref02_sign.l0 k x0 x1 x7 (⟨#[40, 41, 59, 58, 43, 45, 42, 47, 37, 60, 62, 61]⟩ : ByteArray) 0)
def whirligigref02_sign.l0 : Nat → ByteArray → Int → Int → ByteArray → Int → Option (Int × ByteArray × Int × Int × Int × Int)
 | 0, _, _, _, _, _ => none
 | k + 1, x0, x1, x7, x8, x9 => if x9 < (x8.size : Int) then (if 0 ≤ x9 then (if (bt x8 x9) = x7 then (if 0 ≤ x1 then (if x1 ≤ (wrap64 (x1 + 1)) then (if (wrap64 (x1 + 1)) ≤ (x0.size : Int) then (some (5, x0.extract (x1 : Int).toNat ((wrap64 (x1 + 1)) : Int).toNat, 0, x1, wrap64 (x1 + 1), 0)) else (none)) else (none)) else (none)) else (whirligigref02_sign.l0 k x0 x1 x7 x8 (wrap64 (x9 + 1)))) else (none)) else (some (0, (⟨#[]⟩ : ByteArray), 0, 0, x1, 11))
end
def whirligigref02_sign.f (k : Nat) (a0 : ByteArray) (a1 : Int) : Option (Int × ByteArray × Int × Int × Int × Int) := if 0 ≤ a1 then (if a1 < (a0.size : Int) then (if (wrap64 (a1 + 1)) < (a0.size : Int) then (if 0 ≤ (wrap64 (a1 + 1)) then (if (bt a0 (wrap64 (a1 + 1))) = 61 then (if (bt a0 a1) = 60 then (whirligigref02_sign.j0 k a0 a1 (bt a0 a1) true) else (if (bt a0 a1) = 62 then (whirligigref02_sign.j0 k a0 a1 (bt a0 a1) true) else (whirligigref02_sign.j0 k a0 a1 (bt a0 a1) ((bt a0 a1) == 33)))) else (whirligigref02_sign.j0 k a0 a1 (bt a0 a1) false)) else (none)) else (whirligigref02_sign.j0 k a0 a1 (bt a0 a1) false)) else (none)) else (none)
set_option maxHeartbeats 8000000 in
set_option maxRecDepth 100000 in
theorem whirligigref02_sign.calls (k : Nat) (a0 : ByteArray) (a1 : Int) (r1 : Int) (r2 : ByteArray) (r3 : Int) (r4 : Int) (r5 : Int) (r6 : Int) (w : World) (h : whirligigref02_sign.f k a0 a1 = some (r1, r2, r3, r4, r5, r6)) :
  Calls Tryd.prog 112 #[.string a0, .int .i64 a1] w fun e w' => e = .returned (.tuple #[.agg #[.int .i64 r1, .string r2, .int .i64 r3, .int .i64 r4], .int .i64 r5, .int .i64 r6]) ∧ Below w.heap.size w w' := by
 have hu31 := Tryd.underlying31
 have HB := Aside0.mk (Below.refl w.heap.size w)
 have H : (if 0 ≤ a1 then (if a1 < (a0.size : Int) then (if (wrap64 (a1 + 1)) < (a0.size : Int) then (if 0 ≤ (wrap64 (a1 + 1)) then (if (bt a0 (wrap64 (a1 + 1))) = 61 then (if (bt a0 a1) = 60 then (whirligigref02_sign.j0 k a0 a1 (bt a0 a1) true) else (if (bt a0 a1) = 62 then (whirligigref02_sign.j0 k a0 a1 (bt a0 a1) true) else (whirligigref02_sign.j0 k a0 a1 (bt a0 a1) ((bt a0 a1) == 33)))) else (whirligigref02_sign.j0 k a0 a1 (bt a0 a1) false)) else (none)) else (whirligigref02_sign.j0 k a0 a1 (bt a0 a1) false)) else (none)) else (none)) = some (r1, r2, r3, r4, r5, r6) := h
 clear h
 by_cases c3 : 0 ≤ a1
 ·rw [if_pos c3] at H
  have c3b0 := decide_eq_true c3
  clear c3
  by_cases c4 : a1 < (a0.size : Int)
  ·rw [if_pos c4] at H
   have c4b0 := decide_eq_true c4
   clear c4
   have HC6 := Aside0.mk H
   clear H
   go_enter Tryd.func112, Tryd.ntmps112
   go_upto_region 2 with (first | ((with_reducible refine gd 4 rfl ?_); refine bxx 4 #[.int .i64 0, .string (⟨#[]⟩ : ByteArray), .int .i64 0, .int .i64 0] 31 ?_; intro gb185 w7 BK185 GW185 HB; have p5 : 0 ≤ (a1 : Int) := qD; have q5 : a1 < (a0.size : Int) := qD; have hx5 := bt_at a0 a1; replace p5 := eq_true p5; replace q5 := eq_true q5))
   (try simp only [Act.put, List.setIfInBounds_toArray, List.set_cons_zero, List.set_cons_succ])
   go_cut [36] (fun v36 wc => ∃ (kq : Nat) (x36_5 : Bool), v36 = .bool x36_5 ∧ Aside0 (whirligigref02_sign.j0 kq a0 a1 (bt a0 a1) x36_5 = some (r1, r2, r3, r4, r5, r6)) ∧ Aside0 (kq ≤ k) ∧ Aside0 (wc.heap[gb185]? = some (.cells #[.int .i64 0, .string (⟨#[]⟩ : ByteArray), .int .i64 0, .int .i64 0] 31 (0, 0))) ∧ Aside0 (Below w.heap.size w wc))
   case first =>
    have H := HC6.out
    clear HC6
    replace H := iD H
    rcases H with ⟨c8b0, H⟩ | ⟨c8b0, H⟩
    ·(first | rw [c8b0] | (simp only [i64_w, i32_w]; rw [c8b0]) | skip); obtain ⟨ji9, hji9⟩ : ∃ j_ : Int, (wrap64 (a1 + 1)) = j_ := ⟨_, rfl⟩; replace H : (if 0 ≤ (ji9) then (if (bt a0 (ji9)) = 61 then (if (bt a0 a1) = 60 then (whirligigref02_sign.j0 k a0 a1 (bt a0 a1) true) else (if (bt a0 a1) = 62 then (whirligigref02_sign.j0 k a0 a1 (bt a0 a1) true) else (whirligigref02_sign.j0 k a0 a1 (bt a0 a1) ((bt a0 a1) == 33)))) else (whirligigref02_sign.j0 k a0 a1 (bt a0 a1) false)) else (none)) = some (r1, r2, r3, r4, r5, r6) := by first | (rw [hji9] at H; exact H) | (simp only [hji9] at H ⊢; exact H)
     (try rw [hji9] at c8b0); have hji9w : (IntKind.i64.wrap (a1 + 1)) = ji9 := (i64_w _).trans hji9; replace H := iD H
     rcases H with ⟨c10b0, H⟩ | ⟨c10b0, H⟩
     ·by_cases c12 : (bt a0 (ji9)) = 61
      ·rw [if_pos c12] at H; have c12b0 := beq_iff_eq.mpr c12; have c12b1 := bne_eq_false_iff_eq.mpr c12; clear c12
       by_cases c13 : (bt a0 a1) = 60
       ·rw [if_pos c13] at H; have c13b0 := beq_iff_eq.mpr c13; have c13b1 := bne_eq_false_iff_eq.mpr c13; clear c13; have H' := Aside0.mk H; clear H; have p11 : 0 ≤ ((ji9) : Int) := qD; have q11 : (ji9) < (a0.size : Int) := qD; have hx11 := bt_at a0 (ji9); replace p11 := eq_true p11; replace q11 := eq_true q11
        go_wp2
        go_meet
        case rel => exact ⟨_, (true), qE, H', ⟨by first | omega | exact Nat.le_refl _⟩, ⟨qK⟩, ⟨qB⟩⟩
       rw [if_neg c13] at H; have c13b0 := beq_eq_false_iff_ne.mpr c13; have c13b1 := bne_iff_ne.mpr c13
       by_cases c14 : (bt a0 a1) = 62
       ·rw [if_pos c14] at H; have c14b0 := beq_iff_eq.mpr c14; have c14b1 := bne_eq_false_iff_eq.mpr c14; clear c14; have H' := Aside0.mk H; clear H; have p11 : 0 ≤ ((ji9) : Int) := qD; have q11 : (ji9) < (a0.size : Int) := qD; have hx11 := bt_at a0 (ji9); replace p11 := eq_true p11; replace q11 := eq_true q11
        go_wp2
        go_meet
        case rel => exact ⟨_, (true), qE, H', ⟨by first | omega | exact Nat.le_refl _⟩, ⟨qK⟩, ⟨qB⟩⟩
       rw [if_neg c14] at H; have c14b0 := beq_eq_false_iff_ne.mpr c14; have c14b1 := bne_iff_ne.mpr c14; have H' := Aside0.mk H; clear H; have p11 : 0 ≤ ((ji9) : Int) := qD; have q11 : (ji9) < (a0.size : Int) := qD; have hx11 := bt_at a0 (ji9); replace p11 := eq_true p11; replace q11 := eq_true q11
       go_wp2
       go_meet
       case rel => exact ⟨_, (((bt a0 a1) == 33)), qE, H', ⟨by first | omega | exact Nat.le_refl _⟩, ⟨qK⟩, ⟨qB⟩⟩
      rw [if_neg c12] at H; have c12b0 := beq_eq_false_iff_ne.mpr c12; have c12b1 := bne_iff_ne.mpr c12; have H' := Aside0.mk H; clear H; have p11 : 0 ≤ ((ji9) : Int) := qD; have q11 : (ji9) < (a0.size : Int) := qD; have hx11 := bt_at a0 (ji9); replace p11 := eq_true p11; replace q11 := eq_true q11
      go_wp2
      go_meet
      case rel => exact ⟨_, (false), qE, H', ⟨by first | omega | exact Nat.le_refl _⟩, ⟨qK⟩, ⟨qB⟩⟩
     exact absurd H (by simp)
    (first | rw [c8b0] | (simp only [i64_w, i32_w]; rw [c8b0]) | skip)
    have H' := Aside0.mk H
    clear H
    go_wp2
    go_meet
    case rel => exact ⟨_, (false), qE, H', ⟨by first | omega | exact Nat.le_refl _⟩, ⟨qK⟩, ⟨qB⟩⟩
   case rest =>
    clear HC6
    try clear p1
    try clear q1
    try clear hx1
    try clear p2
    try clear p5 p5
    try clear q5 q5
    try clear hx5
    try clear p6
    try clear p11 p11
    try clear q11 q11
    try clear hx11
    obtain ⟨kq, x36_5, rfl, HA, HJ5, BK185, HB⟩ := hcut
    cases kq with
    | zero => exact absurd HA.out (by simp [whirligigref02_sign.j0])
    | succ kj5 =>
     have H := HA.out; clear HA; simp only [whirligigref02_sign.j0] at H
     by_cases c15 : x36_5 = true
     ·subst c15; rw [if_pos rfl] at H
      by_cases c16 : 0 ≤ a1
      ·rw [if_pos c16] at H; have c16b0 := eq_true c16; have c16b1 := decide_eq_true c16; clear c16
       by_cases c17 : a1 ≤ (wrap64 (a1 + 2))
       ·rw [if_pos c17] at H; have c17b0 := eq_true c17; have c17b1 := decide_eq_true c17
        by_cases c18 : (wrap64 (a1 + 2)) ≤ (a0.size : Int)
        ·rw [if_pos c18] at H; have c18b0 := eq_true c18; have c18b1 := decide_eq_true c18; simp only [Option.some.injEq, Prod.mk.injEq] at H; obtain ⟨rfl, rfl, rfl, rfl, rfl, rfl⟩ := H; obtain ⟨_, _, _, _, _, _, _, _⟩ := cells4 BK185.out
         go_wp2
         refine bodyPost_ret (results_ctt rfl _ _ gb185 31 #[.int .i64 5, .string (a0.extract (a1 : Int).toNat ((wrap64 (a1 + 2)) : Int).toNat), .int .i64 0, .int .i64 a1] (0, 0) _ rfl qP Tryd.underlying31 rfl (by kernel_rfl)) rfl ?_; exact ⟨qR, qB⟩
        rw [if_neg c18] at H; exact absurd H (by simp)
       rw [if_neg c17] at H; exact absurd H (by simp)
      rw [if_neg c16] at H; exact absurd H (by simp)
     replace c15 := Bool.eq_false_iff.mpr c15; subst c15; rw [if_neg (show ¬ (false = true) by decide)] at H; have H' := Aside0.mk H; clear H
     go_wp2
     go_loopg [9] kj5 (fun kq v9 w' => ∃ (x9_2 : Int) (x186000_2 : Int) (x186001_2 : ByteArray) (x186002_2 : Int) (x186003_2 : Int), v9 = .int .i64 x9_2 ∧ Aside0 (whirligigref02_sign.l0 kq a0 a1 (bt a0 a1) (⟨#[40, 41, 59, 58, 43, 45, 42, 47, 37, 60, 62, 61]⟩ : ByteArray) x9_2 = some (r1, r2, r3, r4, r5, r6)) ∧ Aside0 (kq ≤ kj5) ∧ Aside0 (w'.heap[gb185]? = some (.cells #[.int .i64 x186000_2, .string x186001_2, .int .i64 x186002_2, .int .i64 x186003_2] 31 (0, 0))) ∧ Aside0 (Below w.heap.size w w'))
     case atStart => exact ⟨(0), (0), ((⟨#[]⟩ : ByteArray)), (0), (0), qE, H', ⟨Nat.le_refl _⟩, ⟨qK⟩, ⟨qB⟩⟩
     case round =>
      clear H'
      try clear p1 p1
      try clear q1 q1
      try clear hx1
      try clear p2 p2
      try clear p5 p5
      try clear q5 q5
      try clear hx5
      try clear p6 p6
      try clear p11 p11
      try clear q11 q11
      try clear hx11
      obtain ⟨x9_2, x186000_2, x186001_2, x186002_2, x186003_2, rfl, HA, HK2, BK185, HB⟩ := hrel; cases gk with
      | zero => exact absurd HA.out (by simp [whirligigref02_sign.l0])
      | succ k2 =>
       have H := HA.out; clear HA; simp only [whirligigref02_sign.l0] at H
       by_cases c20 : x9_2 < ((⟨#[40, 41, 59, 58, 43, 45, 42, 47, 37, 60, 62, 61]⟩ : ByteArray).size : Int)
       ·rw [if_pos c20] at H; have c20b0 := decide_eq_true c20; have c20b0z : decide (x9_2 < 12) = true := c20b0; clear c20; replace H := iD H
        rcases H with ⟨c21b0, H⟩ | ⟨c21b0, H⟩
        ·by_cases c23 : (bt (⟨#[40, 41, 59, 58, 43, 45, 42, 47, 37, 60, 62, 61]⟩ : ByteArray) x9_2) = (bt a0 a1)
         ·rw [if_pos c23] at H; have c23b0 := beq_iff_eq.mpr c23; have c23b1 := bne_eq_false_iff_eq.mpr c23; clear c23
          by_cases c24 : 0 ≤ a1
          ·rw [if_pos c24] at H; have c24b0 := eq_true c24; have c24b1 := decide_eq_true c24; clear c24
           by_cases c25 : a1 ≤ (wrap64 (a1 + 1))
           ·rw [if_pos c25] at H; have c25b0 := eq_true c25; have c25b1 := decide_eq_true c25
            by_cases c26 : (wrap64 (a1 + 1)) ≤ (a0.size : Int)
            ·rw [if_pos c26] at H; have c26b0 := eq_true c26; have c26b1 := decide_eq_true c26; simp only [Option.some.injEq, Prod.mk.injEq] at H; obtain ⟨rfl, rfl, rfl, rfl, rfl, rfl⟩ := H; have p22 : 0 ≤ (x9_2 : Int) := qD; have q22 : x9_2 < (12 : Int) := qD; have hx22 := bt_at (⟨#[40, 41, 59, 58, 43, 45, 42, 47, 37, 60, 62, 61]⟩ : ByteArray) x9_2; replace p22 := eq_true p22; replace q22 := eq_true q22; obtain ⟨_, _, _, _, _, _, _, _⟩ := cells4 BK185.out
             go_wp2
             refine bodyPost_ret (results_ctt rfl _ _ gb185 31 #[.int .i64 5, .string (a0.extract (a1 : Int).toNat ((wrap64 (a1 + 1)) : Int).toNat), .int .i64 0, .int .i64 a1] (0, 0) _ rfl qP Tryd.underlying31 rfl (by kernel_rfl)) rfl ?_; exact ⟨qR, qB⟩
            rw [if_neg c26] at H; exact absurd H (by simp)
           rw [if_neg c25] at H; exact absurd H (by simp)
          rw [if_neg c24] at H; exact absurd H (by simp)
         rw [if_neg c23] at H; have c23b0 := beq_eq_false_iff_ne.mpr c23; have c23b1 := bne_iff_ne.mpr c23; have H' := Aside0.mk H; clear H; have p22 : 0 ≤ (x9_2 : Int) := qD; have q22 : x9_2 < (12 : Int) := qD; have hx22 := bt_at (⟨#[40, 41, 59, 58, 43, 45, 42, 47, 37, 60, 62, 61]⟩ : ByteArray) x9_2; replace p22 := eq_true p22; replace q22 := eq_true q22
         go_wp2
         go_roundg k2
         case measure => have := HJ5.out; have := HK2.out; omega
         case rel => exact ⟨(wrap64 (x9_2 + 1)), (x186000_2), (x186001_2), (x186002_2), (x186003_2), qE, H', ⟨by have := HJ5.out; have := HK2.out; omega⟩, ⟨qK⟩, ⟨qB⟩⟩
        exact absurd H (by simp)
       rw [if_neg c20] at H; have c20b0 := decide_eq_false c20; have c20b0z : decide (x9_2 < 12) = false := c20b0; clear c20; simp only [Option.some.injEq, Prod.mk.injEq] at H; obtain ⟨rfl, rfl, rfl, rfl, rfl, rfl⟩ := H; obtain ⟨_, _, _, _, _, _, _, _⟩ := cells4 BK185.out
       go_wp2
       refine bodyPost_ret (results_ctt rfl _ _ gb185 31 #[.int .i64 0, .string (⟨#[]⟩ : ByteArray), .int .i64 0, .int .i64 0] (0, 0) _ rfl qP Tryd.underlying31 rfl (by kernel_rfl)) rfl ?_; exact ⟨qR, qB⟩
  rw [if_neg c4] at H
  exact absurd H (by simp)
 rw [if_neg c3] at H
 exact absurd H (by simp)
end Go.Proofs.YtbngfhlciebeeaaDoor.L
end
