/- Printed and hand-written steps towards the row (TreeRight), those that it reaches. -/
import Derived.Test.YtbngfhlciebeeaaDoorTreeRightLx0
import Derived.Test.YtbngfhlciebeeaaDoorTreeRightG7
import Derived.Test.YtbngfhlciebeeaaDoorTreeRightLxf19
namespace Go.Proofs.YtbngfhlciebeeaaDoor.L
open Go.RowKit Go.Proofs.YtbngfhlciebeeaaDoorW.PrintWords Go.Proofs.YtbngfhlciebeeaaDoorW.PrintLast Go.Proofs.YtbngfhlciebeeaaDoorW.PrintMore
attribute [local go_sem] max2_int min2_int max_two min_two max_three min_three max_four min_four   -- for this text's walks alone
set_option linter.unusedVariables false
set_option linter.unusedSimpArgs false
mutual
def whirligigref01_Number.j0 : Nat → ByteArray → ByteArray → Bool → Option (Int × Bool)
 | 0, _, _, _ => none
 | k + 1, x0, x4, x16 => if x16 = true then (if 1 ≤ (x0.size : Int) then (whirligigref01_Number.j1 k x0 (x0.extract 1 x0.size)) else (none)) else (whirligigref01_Number.j1 k x0 x4)
def whirligigref01_Number.j1 : Nat → ByteArray → ByteArray → Option (Int × Bool)
 | 0, _, _ => none
 | k + 1, x0, x4 => if (x4.size : Int) = 0 then (whirligigref01_Number.j2 k x0 x4 true) else (whirligigref01_Number.j2 k x0 x4 (decide ((x4.size : Int) > 19)))
def whirligigref01_Number.j2 : Nat → ByteArray → ByteArray → Bool → Option (Int × Bool)
 | 0, _, _, _ => none
 | k + 1, x0, x4, x26 => if x26 = true then (some (0, false)) else (whirligigref01_Number.l0 k x0 x4 0 0)
def whirligigref01_Number.l0 : Nat → ByteArray → ByteArray → Int → Int → Option (Int × Bool)
 | 0, _, _, _, _ => none
 | k + 1, x0, x4, x5, x6 => if x6 < (x4.size : Int) then (if 0 ≤ x6 then (if (bt x4 x6) < 48 then (whirligigref01_Number.j4 k x0 x4 x5 x6 true) else (whirligigref01_Number.j4 k x0 x4 x5 x6 (decide ((bt x4 x6) > 57)))) else (none)) else (if (x4.size : Int) = (x0.size : Int) then (if x5 = (-9223372036854775808) then (some (0, false)) else ((whirligigref01_Digits.f k (wrap64 (-x5))).bind fun t178 => (some (wrap64 (-x5), (t178.toList == x0.toList))))) else ((whirligigref01_Digits.f k x5).bind fun t179 => (some (x5, (t179.toList == x0.toList)))))
def whirligigref01_Number.j4 : Nat → ByteArray → ByteArray → Int → Int → Bool → Option (Int × Bool)
 | 0, _, _, _, _, _ => none
 | k + 1, x0, x4, x5, x6, x42 => if x42 = true then (some (0, false)) else (if 0 ≤ x6 then (if x6 < (x4.size : Int) then (if x5 < (Int.tdiv ((-9223372036854775808) + (((bt x4 x6) - 48) % 256)) 10) then (some (0, false)) else (whirligigref01_Number.l0 k x0 x4 (wrap64 ((wrap64 (10 * x5)) - (((bt x4 x6) - 48) % 256))) (wrap64 (x6 + 1)))) else (none)) else (none))
end
def whirligigref01_Number.f (k : Nat) (a0 : ByteArray) : Option (Int × Bool) := if (a0.size : Int) > 0 then (if 0 < (a0.size : Int) then (whirligigref01_Number.j0 k a0 a0 ((bt a0 0) == 45)) else (none)) else (whirligigref01_Number.j0 k a0 a0 false)
theorem whirligigref01_Number.mono_l : ∀ k, (∀ y0 y1 y2, LeO (whirligigref01_Number.j0 k y0 y1 y2) (whirligigref01_Number.j0 (k + 1) y0 y1 y2)) ∧ (∀ y0 y1, LeO (whirligigref01_Number.j1 k y0 y1) (whirligigref01_Number.j1 (k + 1) y0 y1)) ∧ (∀ y0 y1 y2, LeO (whirligigref01_Number.j2 k y0 y1 y2) (whirligigref01_Number.j2 (k + 1) y0 y1 y2)) ∧ (∀ y0 y1 y2 y3, LeO (whirligigref01_Number.l0 k y0 y1 y2 y3) (whirligigref01_Number.l0 (k + 1) y0 y1 y2 y3)) ∧ (∀ y0 y1 y2 y3 y4, LeO (whirligigref01_Number.j4 k y0 y1 y2 y3 y4) (whirligigref01_Number.j4 (k + 1) y0 y1 y2 y3 y4))
 | 0 => ⟨fun _ _ _ r h => by simp [whirligigref01_Number.j0] at h, fun _ _ r h => by simp [whirligigref01_Number.j1] at h, fun _ _ _ r h => by simp [whirligigref01_Number.j2] at h, fun _ _ _ _ r h => by simp [whirligigref01_Number.l0] at h, fun _ _ _ _ _ r h => by simp [whirligigref01_Number.j4] at h⟩
 | k + 1 => by
  obtain ⟨ih0, ih1, ih2, ih3, ih4⟩ := whirligigref01_Number.mono_l k
  refine ⟨?_, ?_, ?_, ?_, ?_⟩
  ·intro y0 y1 y2
   unfold whirligigref01_Number.j0
   repeat' first
   | (with_reducible exact ih0 _ _ _)
   | (with_reducible exact ih1 _ _)
   | (with_reducible exact ih2 _ _ _)
   | (with_reducible exact ih3 _ _ _ _)
   | (with_reducible exact ih4 _ _ _ _ _)
   | (with_reducible exact whirligigref01_Digits.mono _ _)
   | (with_reducible exact LeO.refl _)
   | (with_reducible exact LeO.none _)
   | (with_reducible refine LeO.ite ?_ ?_)
   | (with_reducible refine LeO.bind ?_ (fun _ => ?_))
   | exact ih0 _ _ _
   | exact ih1 _ _
   | exact ih2 _ _ _
   | exact ih3 _ _ _ _
   | exact ih4 _ _ _ _ _
   | exact whirligigref01_Digits.mono _ _
   | exact LeO.none _
   | refine LeO.ite ?_ ?_
   | refine LeO.bind ?_ (fun _ => ?_)
  ·intro y0 y1
   unfold whirligigref01_Number.j1
   repeat' first
   | (with_reducible exact ih0 _ _ _)
   | (with_reducible exact ih1 _ _)
   | (with_reducible exact ih2 _ _ _)
   | (with_reducible exact ih3 _ _ _ _)
   | (with_reducible exact ih4 _ _ _ _ _)
   | (with_reducible exact whirligigref01_Digits.mono _ _)
   | (with_reducible exact LeO.refl _)
   | (with_reducible exact LeO.none _)
   | (with_reducible refine LeO.ite ?_ ?_)
   | (with_reducible refine LeO.bind ?_ (fun _ => ?_))
   | exact ih0 _ _ _
   | exact ih1 _ _
   | exact ih2 _ _ _
   | exact ih3 _ _ _ _
   | exact ih4 _ _ _ _ _
   | exact whirligigref01_Digits.mono _ _
   | exact LeO.none _
   | refine LeO.ite ?_ ?_
   | refine LeO.bind ?_ (fun _ => ?_)
  ·intro y0 y1 y2
   unfold whirligigref01_Number.j2
   repeat' first
   | (with_reducible exact ih0 _ _ _)
   | (with_reducible exact ih1 _ _)
   | (with_reducible exact ih2 _ _ _)
   | (with_reducible exact ih3 _ _ _ _)
   | (with_reducible exact ih4 _ _ _ _ _)
   | (with_reducible exact whirligigref01_Digits.mono _ _)
   | (with_reducible exact LeO.refl _)
   | (with_reducible exact LeO.none _)
   | (with_reducible refine LeO.ite ?_ ?_)
   | (with_reducible refine LeO.bind ?_ (fun _ => ?_))
   | exact ih0 _ _ _
   | exact ih1 _ _
   | exact ih2 _ _ _
   | exact ih3 _ _ _ _
   | exact ih4 _ _ _ _ _
   | exact whirligigref01_Digits.mono _ _
   | exact LeO.none _
   | refine LeO.ite ?_ ?_
   | refine LeO.bind ?_ (fun _ => ?_)
  ·intro y0 y1 y2 y3
   unfold whirligigref01_Number.l0
   repeat' first
   | (with_reducible exact ih0 _ _ _)
   | (with_reducible exact ih1 _ _)
   | (with_reducible exact ih2 _ _ _)
   | (with_reducible exact ih3 _ _ _ _)
   | (with_reducible exact ih4 _ _ _ _ _)
   | (with_reducible exact whirligigref01_Digits.mono _ _)
   | (with_reducible exact LeO.refl _)
   | (with_reducible exact LeO.none _)
   | (with_reducible refine LeO.ite ?_ ?_)
   | (with_reducible refine LeO.bind ?_ (fun _ => ?_))
   | exact ih0 _ _ _
   | exact ih1 _ _
   | exact ih2 _ _ _
   | exact ih3 _ _ _ _
   | exact ih4 _ _ _ _ _
   | exact whirligigref01_Digits.mono _ _
   | exact LeO.none _
   | refine LeO.ite ?_ ?_
   | refine LeO.bind ?_ (fun _ => ?_)
  ·intro y0 y1 y2 y3 y4
   unfold whirligigref01_Number.j4
   repeat' first
   | (with_reducible exact ih0 _ _ _)
   | (with_reducible exact ih1 _ _)
   | (with_reducible exact ih2 _ _ _)
   | (with_reducible exact ih3 _ _ _ _)
   | (with_reducible exact ih4 _ _ _ _ _)
   | (with_reducible exact whirligigref01_Digits.mono _ _)
   | (with_reducible exact LeO.refl _)
   | (with_reducible exact LeO.none _)
   | (with_reducible refine LeO.ite ?_ ?_)
   | (with_reducible refine LeO.bind ?_ (fun _ => ?_))
   | exact ih0 _ _ _
   | exact ih1 _ _
   | exact ih2 _ _ _
   | exact ih3 _ _ _ _
   | exact ih4 _ _ _ _ _
   | exact whirligigref01_Digits.mono _ _
   | exact LeO.none _
   | refine LeO.ite ?_ ?_
   | refine LeO.bind ?_ (fun _ => ?_)
theorem whirligigref01_Number.mono : ∀ a0 k, LeO (whirligigref01_Number.f k a0) (whirligigref01_Number.f (k + 1) a0) := by
 intro a0 k
 obtain ⟨ih0, ih1, ih2, ih3, ih4⟩ := whirligigref01_Number.mono_l k
 unfold whirligigref01_Number.f
 repeat' first
   | (with_reducible exact ih0 _ _ _)
   | (with_reducible exact ih1 _ _)
   | (with_reducible exact ih2 _ _ _)
   | (with_reducible exact ih3 _ _ _ _)
   | (with_reducible exact ih4 _ _ _ _ _)
   | (with_reducible exact whirligigref01_Digits.mono _ _)
   | (with_reducible exact LeO.refl _)
   | (with_reducible exact LeO.none _)
   | (with_reducible refine LeO.ite ?_ ?_)
   | (with_reducible refine LeO.bind ?_ (fun _ => ?_))
   | exact ih0 _ _ _
   | exact ih1 _ _
   | exact ih2 _ _ _
   | exact ih3 _ _ _ _
   | exact ih4 _ _ _ _ _
   | exact whirligigref01_Digits.mono _ _
   | exact LeO.none _
   | refine LeO.ite ?_ ?_
   | refine LeO.bind ?_ (fun _ => ?_)
set_option maxHeartbeats 8000000 in
set_option maxRecDepth 100000 in
theorem whirligigref01_Number.calls (k : Nat) (a0 : ByteArray) (r1 : Int) (r2 : Bool) (w : World) (h : whirligigref01_Number.f k a0 = some (r1, r2)) :
  Calls Tryd.prog 135 #[.string a0] w fun e w' => e = .returned (.tuple #[.int .i64 r1, .bool r2]) ∧ Below w.heap.size w w' := by
 have HB := Aside0.mk (Below.refl w.heap.size w)
 have H : (if (a0.size : Int) > 0 then (if 0 < (a0.size : Int) then (whirligigref01_Number.j0 k a0 a0 ((bt a0 0) == 45)) else (none)) else (whirligigref01_Number.j0 k a0 a0 false)) = some (r1, r2) := h
 clear h
 have HC2 := Aside0.mk H
 clear H
 go_enter Tryd.func135, Tryd.ntmps135
 go_upto_region 2 with (fail)
 go_cut [16] (fun v16 wc => ∃ (kq : Nat) (x16_1 : Bool), v16 = .bool x16_1 ∧ Aside0 (whirligigref01_Number.j0 kq a0 a0 x16_1 = some (r1, r2)) ∧ Aside0 (kq ≤ k) ∧ Aside0 (Below w.heap.size w wc))
 case first =>
  have H := HC2.out
  clear HC2
  by_cases c3 : (a0.size : Int) > 0
  ·rw [if_pos c3] at H
   have c3b0 := decide_eq_true c3
   have c3b1 : decide (0 < a0.size) = true := decide_eq_true (by omega)
   clear c3
   (first | rw [c3b0] | (simp only [i64_w, i32_w]; rw [c3b0]) | skip)
   by_cases c4 : 0 < (a0.size : Int)
   ·rw [if_pos c4] at H
    have c4b0 := decide_eq_true c4
    have c4b1 : decide (0 < a0.size) = true := decide_eq_true (by omega)
    clear c4
    have H' := Aside0.mk H
    clear H
    have p5 : 0 ≤ (0 : Int) := (by omega)
    have q5 : 0 < a0.size := (by have : (0 : Int) < (a0.size : Int) := qD; omega)
    have hx5 : ∀ h : 0 < a0.size, ((a0[0]'h).toNat : Int) = bt a0 0 := bt_at a0 0
    clear p5
    have qi5 : (0 < (a0.size : Int)) = True := eq_true (qD)
    replace q5 := eq_true q5
    go_wp2
    go_meet
    case rel => exact ⟨_, (((bt a0 0) == 45)), (by first | rfl | (simp; done) | (simp [*]; done)), H', ⟨by first | omega | exact Nat.le_refl _⟩, ⟨qB⟩⟩
   ·rw [if_neg c4] at H
    exact absurd H (by simp)
  ·rw [if_neg c3] at H
   have c3b0 := decide_eq_false c3
   have c3b1 : decide (0 < a0.size) = false := decide_eq_false (by omega)
   clear c3
   (first | rw [c3b0] | (simp only [i64_w, i32_w]; rw [c3b0]) | skip)
   have H' := Aside0.mk H
   clear H
   go_wp2
   go_meet
   case rel => exact ⟨_, (false), (by first | rfl | (simp; done) | (simp [*]; done)), H', ⟨by first | omega | exact Nat.le_refl _⟩, ⟨qB⟩⟩
 case rest =>
  clear HC2
  try clear c1
  try clear p2
  try clear c3
  try clear c3b0
  try clear c3b1
  try clear c4
  try clear c4b0
  try clear c4b1
  try clear p5 p5
  try clear q5 q5
  try clear hx5
  try clear qi5
  obtain ⟨kq, x16_1, rfl, HA, HJ1, HB⟩ := hcut
  cases kq with
  | zero => exact absurd HA.out (by simp [whirligigref01_Number.j0])
  | succ kj1 =>
   have H := HA.out
   clear HA
   simp only [whirligigref01_Number.j0] at H
   have HC6 := Aside0.mk H
   clear H
   go_upto_if 16 with (fail)
   go_cut [4] (fun v4 wc => ∃ (kq : Nat) (x4_5 : ByteArray), v4 = .string x4_5 ∧ Aside0 (whirligigref01_Number.j1 kq a0 x4_5 = some (r1, r2)) ∧ Aside0 (kq ≤ kj1) ∧ Aside0 (Below w.heap.size w wc))
   case first =>
    have H := HC6.out
    clear HC6
    by_cases c7 : x16_1 = true
    ·subst c7
     rw [if_pos rfl] at H
     by_cases c8 : 1 ≤ (a0.size : Int)
     ·rw [if_pos c8] at H
      have c8b0 := eq_true c8
      have c8b1 := decide_eq_true c8
      clear c8
      have H' := Aside0.mk H
      clear H
      go_wp2
      go_meet
      case rel => exact ⟨_, (a0.extract 1 a0.size), (by first | rfl | (simp; done) | (simp [*]; done)), H', ⟨by have := HJ1.out; first | omega | exact Nat.le_refl _⟩, ⟨qB⟩⟩
     ·rw [if_neg c8] at H
      exact absurd H (by simp)
    ·replace c7 := Bool.eq_false_iff.mpr c7
     subst c7
     rw [if_neg (show ¬ (false = true) by decide)] at H
     have H' := Aside0.mk H
     clear H
     go_wp2
     go_meet
     case rel => exact ⟨_, (a0), (by first | rfl | (simp; done) | (simp [*]; done)), H', ⟨by have := HJ1.out; first | omega | exact Nat.le_refl _⟩, ⟨qB⟩⟩
   case rest =>
    clear HC6
    try clear c1
    try clear p2 p2
    try clear c3
    try clear c3b0
    try clear c3b1
    try clear c4
    try clear c4b0
    try clear c4b1
    try clear p5 p5
    try clear q5 q5
    try clear hx5
    try clear qi5
    try clear c7
    try clear c8
    try clear c8b0
    try clear c8b1
    obtain ⟨kq, x4_5, rfl, HA, HJ5, HB⟩ := hcut
    cases kq with
    | zero => exact absurd HA.out (by simp [whirligigref01_Number.j1])
    | succ kj5 =>
     have H := HA.out
     clear HA
     simp only [whirligigref01_Number.j1] at H
     have HC9 := Aside0.mk H
     clear H
     go_upto_region 4 with (fail)
     go_cut [26] (fun v26 wc => ∃ (kq : Nat) (x26_8 : Bool), v26 = .bool x26_8 ∧ Aside0 (whirligigref01_Number.j2 kq a0 x4_5 x26_8 = some (r1, r2)) ∧ Aside0 (kq ≤ kj5) ∧ Aside0 (Below w.heap.size w wc))
     case first =>
      have H := HC9.out
      clear HC9
      by_cases c10 : (x4_5.size : Int) = 0
      ·rw [if_pos c10] at H
       have c10b0 := beq_iff_eq.mpr c10
       have c10b1 := bne_eq_false_iff_eq.mpr c10
       clear c10
       (first | rw [c10b0] | (simp only [i64_w, i32_w]; rw [c10b0]) | skip)
       have H' := Aside0.mk H
       clear H
       go_wp2
       go_meet
       case rel => exact ⟨_, (true), (by first | rfl | (simp; done) | (simp [*]; done)), H', ⟨by have := HJ1.out; have := HJ5.out; first | omega | exact Nat.le_refl _⟩, ⟨qB⟩⟩
      ·rw [if_neg c10] at H
       have c10b0 := beq_eq_false_iff_ne.mpr c10
       have c10b1 := bne_iff_ne.mpr c10
       (first | rw [c10b0] | (simp only [i64_w, i32_w]; rw [c10b0]) | skip)
       have H' := Aside0.mk H
       clear H
       go_wp2
       go_meet
       case rel => exact ⟨_, (decide ((x4_5.size : Int) > 19)), (by first | rfl | (simp; done) | (simp [*]; done)), H', ⟨by have := HJ1.out; have := HJ5.out; first | omega | exact Nat.le_refl _⟩, ⟨qB⟩⟩
     case rest =>
      clear HC9
      try clear c1
      try clear p2 p2
      try clear c3
      try clear c3b0
      try clear c3b1
      try clear c4
      try clear c4b0
      try clear c4b1
      try clear p5 p5
      try clear q5 q5
      try clear hx5
      try clear qi5
      try clear c7
      try clear c8
      try clear c8b0
      try clear c8b1
      try clear c10
      try clear c10b0
      try clear c10b1
      obtain ⟨kq, x26_8, rfl, HA, HJ8, HB⟩ := hcut
      cases kq with
      | zero => exact absurd HA.out (by simp [whirligigref01_Number.j2])
      | succ kj8 =>
       have H := HA.out
       clear HA
       simp only [whirligigref01_Number.j2] at H
       by_cases c11 : x26_8 = true
       ·subst c11
        rw [if_pos rfl] at H
        simp only [Option.some.injEq, Prod.mk.injEq] at H
        obtain ⟨rfl, rfl⟩ := H
        go_wp2
        go_ret2
        exact ⟨qR, qB⟩
       ·replace c11 := Bool.eq_false_iff.mpr c11
        subst c11
        rw [if_neg (show ¬ (false = true) by decide)] at H
        have H' := Aside0.mk H
        clear H
        go_wp2
        go_loopg [5, 6] kj8 (fun kq v5 v6 w' => ∃ (x5_4 : Int) (x6_4 : Int), v5 = .int .i64 x5_4 ∧ v6 = .int .i64 x6_4 ∧ Aside0 (whirligigref01_Number.l0 kq a0 x4_5 x5_4 x6_4 = some (r1, r2)) ∧ Aside0 (kq ≤ kj8) ∧ Aside0 (Below w.heap.size w w'))
        case atStart => exact ⟨(0), (0), (by first | rfl | (simp; done) | (simp [*]; done)), (by first | rfl | (simp; done) | (simp [*]; done)), H', ⟨Nat.le_refl _⟩, ⟨qB⟩⟩
        case round =>
         clear H'
         try clear c1
         try clear p2 p2
         try clear c3
         try clear c3b0
         try clear c3b1
         try clear c4
         try clear c4b0
         try clear c4b1
         try clear p5 p5
         try clear q5 q5
         try clear hx5
         try clear qi5
         try clear c7
         try clear c8
         try clear c8b0
         try clear c8b1
         try clear c10
         try clear c10b0
         try clear c10b1
         try clear c11
         obtain ⟨x5_4, x6_4, rfl, rfl, HA, HK4, HB⟩ := hrel
         cases gk with
         | zero => exact absurd HA.out (by simp [whirligigref01_Number.l0])
         | succ k4 =>
          have H := HA.out
          clear HA
          simp only [whirligigref01_Number.l0] at H
          by_cases c12 : x6_4 < (x4_5.size : Int)
          ·rw [if_pos c12] at H
           have c12b0 := decide_eq_true c12
           clear c12
           have HC13 := Aside0.mk H
           clear H
           go_upto_region 10 with (fail)
           go_cut [42] (fun v42 wc => ∃ (kq : Nat) (x42_12 : Bool), v42 = .bool x42_12 ∧ Aside0 (whirligigref01_Number.j4 kq a0 x4_5 x5_4 x6_4 x42_12 = some (r1, r2)) ∧ Aside0 (kq ≤ k4) ∧ Aside0 (Below w.heap.size w wc))
           case first =>
            have H := HC13.out
            clear HC13
            by_cases c14 : 0 ≤ x6_4
            ·rw [if_pos c14] at H
             have c14b0 := decide_eq_true c14
             clear c14
             (first | rw [c14b0] | (simp only [i64_w, i32_w]; rw [c14b0]) | skip)
             by_cases c16 : (bt x4_5 x6_4) < 48
             ·rw [if_pos c16] at H
              have c16b0 := decide_eq_true c16
              clear c16
              have H' := Aside0.mk H
              clear H
              have p15 : 0 ≤ (x6_4 : Int) := qD
              have q15 : x6_4 < (x4_5.size : Int) := qD
              have hx15 := bt_at x4_5 x6_4
              replace p15 := eq_true p15
              replace q15 := eq_true q15
              go_wp2
              go_meet
              case rel => exact ⟨_, (true), (by first | rfl | (simp; done) | (simp [*]; done)), H', ⟨by have := HJ1.out; have := HJ5.out; have := HJ8.out; have := HK4.out; first | omega | exact Nat.le_refl _⟩, ⟨qB⟩⟩
             ·rw [if_neg c16] at H
              have c16b0 := decide_eq_false c16
              clear c16
              have H' := Aside0.mk H
              clear H
              have p15 : 0 ≤ (x6_4 : Int) := qD
              have q15 : x6_4 < (x4_5.size : Int) := qD
              have hx15 := bt_at x4_5 x6_4
              replace p15 := eq_true p15
              replace q15 := eq_true q15
              have p17 : 0 ≤ (x6_4 : Int) := qD
              have q17 : x6_4 < (x4_5.size : Int) := qD
              have hx17 := bt_at x4_5 x6_4
              replace p17 := eq_true p17
              replace q17 := eq_true q17
              go_wp2
              go_meet
              case rel => exact ⟨_, (decide ((bt x4_5 x6_4) > 57)), (by first | rfl | (simp; done) | (simp [*]; done)), H', ⟨by have := HJ1.out; have := HJ5.out; have := HJ8.out; have := HK4.out; first | omega | exact Nat.le_refl _⟩, ⟨qB⟩⟩
            ·rw [if_neg c14] at H
             exact absurd H (by simp)
           case rest =>
            clear HC13
            try clear c1
            try clear p1
            try clear q1
            try clear hx1
            try clear p2 p2
            try clear c3
            try clear c3b0
            try clear c3b1
            try clear c4
            try clear c4b0
            try clear c4b1
            try clear p5 p5
            try clear q5 q5
            try clear hx5
            try clear qi5
            try clear c7
            try clear c8
            try clear c8b0
            try clear c8b1
            try clear c10
            try clear c10b0
            try clear c10b1
            try clear c11
            try clear c12
            try clear c12b0
            try clear c13
            try clear c14
            try clear c14b0
            try clear p15 p15
            try clear q15 q15
            try clear hx15
            try clear c16
            try clear c16b0
            try clear p17 p17
            try clear q17 q17
            try clear hx17
            obtain ⟨kq, x42_12, rfl, HA, HJ12, HB⟩ := hcut
            cases kq with
            | zero => exact absurd HA.out (by simp [whirligigref01_Number.j4])
            | succ kj12 =>
             have H := HA.out
             clear HA
             simp only [whirligigref01_Number.j4] at H
             by_cases c18 : x42_12 = true
             ·subst c18
              rw [if_pos rfl] at H
              simp only [Option.some.injEq, Prod.mk.injEq] at H
              obtain ⟨rfl, rfl⟩ := H
              go_wp2
              go_ret2
              exact ⟨qR, qB⟩
             ·replace c18 := Bool.eq_false_iff.mpr c18
              subst c18
              rw [if_neg (show ¬ (false = true) by decide)] at H
              by_cases c19 : 0 ≤ x6_4
              ·rw [if_pos c19] at H
               have c19b0 := decide_eq_true c19
               clear c19
               by_cases c20 : x6_4 < (x4_5.size : Int)
               ·rw [if_pos c20] at H
                have c20b0 := decide_eq_true c20
                clear c20
                by_cases c22 : x5_4 < (Int.tdiv ((-9223372036854775808) + (((bt x4_5 x6_4) - 48) % 256)) 10)
                ·rw [if_pos c22] at H
                 have c22b0 := decide_eq_true c22
                 clear c22
                 simp only [Option.some.injEq, Prod.mk.injEq] at H
                 obtain ⟨rfl, rfl⟩ := H
                 have p21 : 0 ≤ (x6_4 : Int) := qD
                 have q21 : x6_4 < (x4_5.size : Int) := qD
                 have hx21 := bt_at x4_5 x6_4
                 replace p21 := eq_true p21
                 replace q21 := eq_true q21
                 go_wp2
                 go_ret2
                 exact ⟨qR, qB⟩
                ·rw [if_neg c22] at H
                 have c22b0 := decide_eq_false c22
                 clear c22
                 have H' := Aside0.mk H
                 clear H
                 have p21 : 0 ≤ (x6_4 : Int) := qD
                 have q21 : x6_4 < (x4_5.size : Int) := qD
                 have hx21 := bt_at x4_5 x6_4
                 replace p21 := eq_true p21
                 replace q21 := eq_true q21
                 go_wp2
                 go_roundg kj12
                 case measure => have := HJ1.out; have := HJ5.out; have := HJ8.out; have := HK4.out; have := HJ12.out; omega
                 case rel => exact ⟨(wrap64 ((wrap64 (10 * x5_4)) - (((bt x4_5 x6_4) - 48) % 256))), (wrap64 (x6_4 + 1)), (by first | rfl | (simp; done) | (simp [*]; done)), (by first | rfl | (simp; done) | (simp [*]; done)), H', ⟨by have := HJ1.out; have := HJ5.out; have := HJ8.out; have := HK4.out; have := HJ12.out; omega⟩, ⟨qB⟩⟩
               ·rw [if_neg c20] at H
                exact absurd H (by simp)
              ·rw [if_neg c19] at H
               exact absurd H (by simp)
          ·rw [if_neg c12] at H
           have c12b0 := decide_eq_false c12
           clear c12
           by_cases c23 : (x4_5.size : Int) = (a0.size : Int)
           ·rw [if_pos c23] at H
            have c23b0 := beq_iff_eq.mpr c23
            have c23b1 := bne_eq_false_iff_eq.mpr c23
            have c23b2 : (x4_5.size == a0.size) = true := by first | simpa using c23 | (simp at c23 ⊢; omega)
            clear c23
            by_cases c24 : x5_4 = (-9223372036854775808)
            ·rw [if_pos c24] at H
             have c24b0 := beq_iff_eq.mpr c24
             have c24b1 := bne_eq_false_iff_eq.mpr c24
             clear c24
             simp only [Option.some.injEq, Prod.mk.injEq] at H
             obtain ⟨rfl, rfl⟩ := H
             go_wp2
             go_ret2
             exact ⟨qR, qB⟩
            ·rw [if_neg c24] at H
             have c24b0 := beq_eq_false_iff_ne.mpr c24
             have c24b1 := bne_iff_ne.mpr c24
             replace H := Option.bind_eq_some_iff.mp H
             obtain ⟨t178, A250, H⟩ := H
             (try dsimp -simprocs only at H)
             have A25 := Aside0.mk A250
             clear A250
             simp only [Option.some.injEq, Prod.mk.injEq] at H
             obtain ⟨rfl, rfl⟩ := H
             go_wp2_with (first | (refine gl (some 68) #[.int .i64 (wrap64 (-x5_4))] Tryd.func154 ?_; (with_reducible refine (whirligigref01_Digits.calls k4 (wrap64 (-x5_4)) t178 _ A25.out).mono ?_); rintro e w26 ⟨rfl, hb⟩; refine ⟨_, rfl, ?_⟩; replace HB := bst hb; (try clear hb)))
             go_ret2
             exact ⟨qR, qB⟩
           ·rw [if_neg c23] at H
            have c23b0 := beq_eq_false_iff_ne.mpr c23
            have c23b1 := bne_iff_ne.mpr c23
            have c23b2 : (x4_5.size == a0.size) = false := by first | simpa using c23 | (simp at c23 ⊢; omega)
            replace H := Option.bind_eq_some_iff.mp H
            obtain ⟨t179, A270, H⟩ := H
            (try dsimp -simprocs only at H)
            have A27 := Aside0.mk A270
            clear A270
            simp only [Option.some.injEq, Prod.mk.injEq] at H
            obtain ⟨rfl, rfl⟩ := H
            go_wp2_with (first | (refine gl (some 68) #[.int .i64 x5_4] Tryd.func154 ?_; (with_reducible refine (whirligigref01_Digits.calls k4 x5_4 t179 _ A27.out).mono ?_); rintro e w28 ⟨rfl, hb⟩; refine ⟨_, rfl, ?_⟩; replace HB := bst hb; (try clear hb)))
            go_ret2
            exact ⟨qR, qB⟩
end Go.Proofs.YtbngfhlciebeeaaDoor.L
