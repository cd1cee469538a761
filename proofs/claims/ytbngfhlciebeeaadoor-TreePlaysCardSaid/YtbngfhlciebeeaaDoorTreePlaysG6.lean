/- Printed and hand-written steps towards the row (TreePlays), those that it reaches. -/
import Derived.Test.YtbngfhlciebeeaaDoorTreePlaysG4
import Derived.Test.YtbngfhlciebeeaaDoorTreePlaysG5
import Derived.LoopTactic
section
namespace Go.Proofs.YtbngfhlciebeeaaDoor.L
open Go.RowKit Go.Proofs.YtbngfhlciebeeaaDoorW.PrintWords Go.Proofs.YtbngfhlciebeeaaDoorW.PrintLast Go.Proofs.YtbngfhlciebeeaaDoorW.PrintMore
attribute [local go_sem] max2_int min2_int max_two min_two max_three min_three max_four min_four   -- for this text's walks alone
set_option linter.unusedVariables false
set_option linter.unusedSimpArgs false
attribute [local go_sem high] eqA45
def tree_Input.l0 : Nat → List (S45) → List (S45) → Int → Int → Option (Bool)
 | 0, _, _, _, _ => none
 | k + 1, x0, x1, x12, x13 => if x13 < x12 then (if 0 ≤ x13 then (if x13 < (x0.length : Int) then (if x13 < (x1.length : Int) then (if (!(((rd_T45 x0 x13).f0) == ((rd_T45 x1 x13).f0)) || (!(((rd_T45 x0 x13).f1) == ((rd_T45 x1 x13).f1)) || (!((((rd_T45 x0 x13).f2).toList) == (((rd_T45 x1 x13).f2).toList)) || (!(((rd_T45 x0 x13).f3) == ((rd_T45 x1 x13).f3)))))) = true then (some false) else (tree_Input.l0 k x0 x1 x12 (wrap64 (x13 + 1)))) else (none)) else (none)) else (none)) else (some true)
def tree_Input.f (k : Nat) (l0 : List (S45)) (l1 : List (S45)) : Option (Bool) := if (l0.length : Int) = (l1.length : Int) then (tree_Input.l0 k l0 l1 (l0.length : Int) 0) else (some false)
set_option maxHeartbeats 8000000 in
set_option maxRecDepth 100000 in
theorem tree_Input.calls (k : Nat) (A0 : Option Addr) (c0 : Nat) (l0 : List (S45)) (A1 : Option Addr) (c1 : Nat) (l1 : List (S45)) (r : Bool) (w : World) (hr0 : Kd.C k45 w A0 l0.length l0) (hc0 : l0.length ≤ c0) (hr1 : Kd.C k45 w A1 l1.length l1) (hc1 : l1.length ≤ c1) (h : tree_Input.f k l0 l1 = some r) :
  Calls Tryd.prog 87 #[.slice A0 l0.length c0, .slice A1 l1.length c1] w fun e w' => e = .returned (.bool r) ∧ Drawn0 w w' := by
 have hu45 := Tryd.underlying45
 have HR0 := Aside0.mk hr0
 have HC0 := Aside0.mk hc0
 clear hr0 hc0
 have HR1 := Aside0.mk hr1
 have HC1 := Aside0.mk hc1
 clear hr1 hc1
 have H : (if (l0.length : Int) = (l1.length : Int) then (tree_Input.l0 k l0 l1 (l0.length : Int) 0) else (some false)) = some r := h
 clear h
 by_cases c3 : (l0.length : Int) = (l1.length : Int)
 ·rw [if_pos c3] at H
  have c3b0 := beq_iff_eq.mpr c3
  have c3b1 := bne_eq_false_iff_eq.mpr c3
  have c3b2 : (l0.length == l1.length) = true := by first | simpa using c3 | (simp at c3 ⊢; omega)
  clear c3
  have H' := Aside0.mk H
  clear H
  go_enter Tryd.func87, Tryd.ntmps87
  go_wp2
  repeat (go_quiet (fail); try go_wp2)
  go_loopg [13] k (fun kq v13 w' => ∃ (x13_1 : Int), v13 = .int .i64 x13_1 ∧ Aside0 (tree_Input.l0 kq l0 l1 (l0.length : Int) x13_1 = some r) ∧ Aside0 (kq ≤ k) ∧ Drawn0 w w')
  case atStart => exact ⟨(0), qE, H', ⟨Nat.le_refl _⟩, by repeat (first | exact Drawn0.refl _ | apply Drawn0.step)⟩
  case round =>
   clear H'
   try clear p2
   obtain ⟨x13_1, rfl, HA, HK1, ⟨m1, rfl⟩⟩ := hrel
   cases gk with
   | zero => exact absurd HA.out (by simp [tree_Input.l0])
   | succ k1 =>
    have H := HA.out
    clear HA
    simp only [tree_Input.l0] at H
    replace H := iD H
    rcases H with ⟨c4b0, H⟩ | ⟨c4b0, H⟩
    ·by_cases c5 : 0 ≤ x13_1
     ·rw [if_pos c5] at H; have c5b0 := decide_eq_true c5; clear c5; replace H := iD H
      rcases H with ⟨c6b0, H⟩ | ⟨c6b0, H⟩
      ·by_cases c7 : x13_1 < (l1.length : Int)
       ·rw [if_pos c7] at H; have c7b0 := decide_eq_true c7; clear c7
        by_cases c8 : (!(((rd_T45 l0 x13_1).f0) == ((rd_T45 l1 x13_1).f0)) || (!(((rd_T45 l0 x13_1).f1) == ((rd_T45 l1 x13_1).f1)) || (!((((rd_T45 l0 x13_1).f2).toList) == (((rd_T45 l1 x13_1).f2).toList)) || (!(((rd_T45 l0 x13_1).f3) == ((rd_T45 l1 x13_1).f3)))))) = true
        ·rw [if_pos c8] at H; have c8b0 : (!(((rd_T45 l0 x13_1).f0) == ((rd_T45 l1 x13_1).f0)) || (!(((rd_T45 l0 x13_1).f1) == ((rd_T45 l1 x13_1).f1)) || (!((((rd_T45 l0 x13_1).f2).toList) == (((rd_T45 l1 x13_1).f2).toList)) || (!(((rd_T45 l0 x13_1).f3) == ((rd_T45 l1 x13_1).f3)))))) = true := c8; clear c8; obtain rfl := Option.some.inj H; have p340 : 0 ≤ (x13_1 : Int) := qD; have q340 : x13_1 < (l0.length : Int) := qD; obtain ⟨ad340, e340, hx340_0, hx340_1, hx340_2, hx340_3⟩ := at_T45 HR0.out x13_1 p340 q340; cases e340; replace p340 := eq_true p340; replace q340 := eq_true q340; have p341 : 0 ≤ (x13_1 : Int) := qD; have q341 : x13_1 < (l1.length : Int) := qD; obtain ⟨ad341, e341, hx341_0, hx341_1, hx341_2, hx341_3⟩ := at_T45 HR1.out x13_1 p341 q341; cases e341; replace p341 := eq_true p341; replace q341 := eq_true q341
         go_wp2
         repeat (go_quiet (fail); try go_wp2)
         go_ret; exact qN
        rw [if_neg c8] at H; have c8b0 : (!(((rd_T45 l0 x13_1).f0) == ((rd_T45 l1 x13_1).f0)) || (!(((rd_T45 l0 x13_1).f1) == ((rd_T45 l1 x13_1).f1)) || (!((((rd_T45 l0 x13_1).f2).toList) == (((rd_T45 l1 x13_1).f2).toList)) || (!(((rd_T45 l0 x13_1).f3) == ((rd_T45 l1 x13_1).f3)))))) = false := by simpa using c8
        clear c8; have H' := Aside0.mk H; clear H; have p340 : 0 ≤ (x13_1 : Int) := qD; have q340 : x13_1 < (l0.length : Int) := qD; obtain ⟨ad340, e340, hx340_0, hx340_1, hx340_2, hx340_3⟩ := at_T45 HR0.out x13_1 p340 q340; cases e340; replace p340 := eq_true p340; replace q340 := eq_true q340; have p341 : 0 ≤ (x13_1 : Int) := qD; have q341 : x13_1 < (l1.length : Int) := qD; obtain ⟨ad341, e341, hx341_0, hx341_1, hx341_2, hx341_3⟩ := at_T45 HR1.out x13_1 p341 q341; cases e341; replace p341 := eq_true p341; replace q341 := eq_true q341
        go_wp2
        repeat (go_quiet (fail); try go_wp2)
        go_roundg k1
        case measure => have := HK1.out; omega
        case rel => exact ⟨(wrap64 (x13_1 + 1)), qE, H', ⟨by have := HK1.out; omega⟩, by repeat (first | exact Drawn0.refl _ | apply Drawn0.step)⟩
       rw [if_neg c7] at H; exact absurd H (by simp)
      exact absurd H (by simp)
     rw [if_neg c5] at H; exact absurd H (by simp)
    obtain rfl := Option.some.inj H
    go_wp2
    repeat (go_quiet (fail); try go_wp2)
    go_ret
    exact qN
 rw [if_neg c3] at H
 have c3b0 := beq_eq_false_iff_ne.mpr c3
 have c3b1 := bne_iff_ne.mpr c3
 have c3b2 : (l0.length == l1.length) = false := by first | simpa using c3 | (simp at c3 ⊢; omega)
 obtain rfl := Option.some.inj H
 go_enter Tryd.func87, Tryd.ntmps87
 go_wp2
 repeat (go_quiet (fail); try go_wp2)
 go_ret
 exact qN
end Go.Proofs.YtbngfhlciebeeaaDoor.L
end
section
namespace Go.Proofs.YtbngfhlciebeeaaDoor.L
open Go.RowKit Go.Proofs.YtbngfhlciebeeaaDoorW.PrintWords Go.Proofs.YtbngfhlciebeeaaDoorW.PrintLast Go.Proofs.YtbngfhlciebeeaaDoorW.PrintMore
attribute [local go_sem] max2_int min2_int max_two min_two max_three min_three max_four min_four   -- for this text's walks alone
set_option linter.unusedVariables false
set_option linter.unusedSimpArgs false
def tok_Lex_1.f (a0 : Int) : Option (Bool) := some (a0 == 32)
set_option maxHeartbeats 8000000 in
set_option maxRecDepth 100000 in
theorem tok_Lex_1.calls (a0 : Int) (r : Bool) (w : World) (h : tok_Lex_1.f a0 = some r) :
  Calls Tryd.prog 68 #[.int .u8 a0] w fun e w' => e = .returned (.bool r) ∧ Drawn0 w w' := by
 have H : (some (a0 == 32)) = some r := h
 clear h
 obtain rfl := Option.some.inj H
 go_enter Tryd.func68, Tryd.ntmps68
 go_wp2
 go_ret
 exact qN
def tok_reader_while_blank.l0 : Nat → Int → ByteArray → Int → Option (ByteArray × ByteArray × Int)
 | 0, _, _, _ => none
 | k + 1, x5, x1000, x1001 => if x1001 < (x1000.size : Int) then (if 0 ≤ x1001 then ((tok_Lex_1.f (bt x1000 x1001)).bind fun t155 => (if t155 = true then (tok_reader_while_blank.l0 k x5 x1000 (wrap64 (x1001 + 1))) else (if 0 ≤ x5 then (if x5 ≤ x1001 then (if x1001 ≤ (x1000.size : Int) then (some (x1000.extract (x5 : Int).toNat (x1001 : Int).toNat, x1000, x1001)) else (none)) else (none)) else (none)))) else (none)) else (if 0 ≤ x5 then (if x5 ≤ x1001 then (if x1001 ≤ (x1000.size : Int) then (some (x1000.extract (x5 : Int).toNat (x1001 : Int).toNat, x1000, x1001)) else (none)) else (none)) else (none))
def tok_reader_while_blank.f (k : Nat) (s0_0 : ByteArray) (s0_1 : Int) : Option (ByteArray × ByteArray × Int) := tok_reader_while_blank.l0 k s0_1 s0_0 s0_1
set_option maxHeartbeats 8000000 in
set_option maxRecDepth 100000 in
theorem tok_reader_while_blank.calls (k : Nat) (g : Nat) (s0_0 : ByteArray) (s0_1 : Int) (r1 : ByteArray) (r2 : ByteArray) (r3 : Int) (w0 w : World) (hI : IsS122 w0 w g s0_0 s0_1) (hB : Below w0.heap.size w0 w) (h : tok_reader_while_blank.f k s0_0 s0_1 = some (r1, r2, r3)) :
  Calls Tryd.prog 67 #[.pointer (some ⟨g, 0, none⟩), .func (.func 68) #[] #[]] w fun e w' => e = .returned (.string r1) ∧ IsS122 w0 w' g r2 r3 ∧ Below w0.heap.size w0 w' ∧ KeepBut w w' g none := by
 have HI0 := Aside0.mk hI
 have HK := Aside0.mk (KeepBut.refl w g none)
 have HL := Aside0.mk hB.size
 clear hI
 have HW0 := Aside0.mk hB.size
 have HB := Aside0.mk hB
 clear hB
 have H : (tok_reader_while_blank.l0 k s0_1 s0_0 s0_1) = some (r1, r2, r3) := h
 clear h
 have H' := Aside0.mk H
 clear H
 obtain ⟨_, _, _, _⟩ := cellsI HI0.out
 go_enter Tryd.func67, Tryd.ntmps67
 go_wp2
 repeat (go_quiet (fail); try go_wp2)
 go_loopg [] k (fun kq w' => ∃ (x1001_1 : Int), Aside0 (tok_reader_while_blank.l0 kq s0_1 s0_0 x1001_1 = some (r1, r2, r3)) ∧ Aside0 (kq ≤ k) ∧ Aside0 (IsS122 w0 w' g s0_0 x1001_1) ∧ Aside0 (KeepBut w w' g none) ∧ Aside0 (Below w0.heap.size w0 w'))
 case atStart => exact ⟨(s0_1), H', ⟨Nat.le_refl _⟩, ⟨qI⟩, ⟨qH⟩, ⟨qB⟩⟩
 case round =>
  clear H'
  try clear p2
  obtain ⟨x1001_1, HA, HK1, HI0, HK, HB⟩ := hrel
  cases gk with
  | zero => exact absurd HA.out (by simp [tok_reader_while_blank.l0])
  | succ k1 =>
   have H := HA.out
   clear HA
   simp only [tok_reader_while_blank.l0] at H
   replace H := iD H
   rcases H with ⟨c3b0, H⟩ | ⟨c3b0, H⟩
   ·by_cases c4 : 0 ≤ x1001_1
    ·rw [if_pos c4] at H; have c4b0 := decide_eq_true c4; clear c4; replace H := Option.bind_eq_some_iff.mp H; obtain ⟨t155, A60, H⟩ := H; (try dsimp -simprocs only at H); have A6 := Aside0.mk A60; clear A60
     by_cases c7 : t155 = true
     ·subst c7; rw [if_pos rfl] at H; have H' := Aside0.mk H; clear H; obtain ⟨_, _, _, _⟩ := cellsI HI0.out; have p5 : 0 ≤ (x1001_1 : Int) := qD; have q5 : x1001_1 < (s0_0.size : Int) := qD; have hx5 := bt_at s0_0 x1001_1; replace p5 := eq_true p5; replace q5 := eq_true q5
      go_wp2_with (first | (go_at_call 68; (with_reducible refine (tok_Lex_1.calls (bt s0_0 x1001_1) true _ A6.out).mono ?_); rintro e w' ⟨rfl, ⟨nd, rfl⟩⟩; (try exact qW)))
      repeat (go_quiet (first | (go_at_call 68; (with_reducible refine (tok_Lex_1.calls (bt s0_0 x1001_1) true _ A6.out).mono ?_); rintro e w' ⟨rfl, ⟨nd, rfl⟩⟩; (try exact qW))); try go_wp2_with (first | (go_at_call 68; (with_reducible refine (tok_Lex_1.calls (bt s0_0 x1001_1) true _ A6.out).mono ?_); rintro e w' ⟨rfl, ⟨nd, rfl⟩⟩; (try exact qW))))
      go_roundg k1
      case measure => have := HK1.out; omega
      case rel => exact ⟨(wrap64 (x1001_1 + 1)), H', ⟨by have := HK1.out; omega⟩, ⟨qI⟩, ⟨qH⟩, ⟨qB⟩⟩
     replace c7 := Bool.eq_false_iff.mpr c7; subst c7; rw [if_neg (show ¬ (false = true) by decide)] at H
     by_cases c9 : 0 ≤ s0_1
     ·rw [if_pos c9] at H; have c9b0 := eq_true c9; have c9b1 := decide_eq_true c9; clear c9
      by_cases c10 : s0_1 ≤ x1001_1
      ·rw [if_pos c10] at H; have c10b0 := eq_true c10; have c10b1 := decide_eq_true c10; clear c10
       by_cases c11 : x1001_1 ≤ (s0_0.size : Int)
       ·rw [if_pos c11] at H; have c11b0 := eq_true c11; have c11b1 := decide_eq_true c11; clear c11; simp only [Option.some.injEq, Prod.mk.injEq] at H; obtain ⟨rfl, rfl, rfl⟩ := H; obtain ⟨_, _, _, _⟩ := cellsI HI0.out; have p5 : 0 ≤ (x1001_1 : Int) := qD; have q5 : x1001_1 < (s0_0.size : Int) := qD; have hx5 := bt_at s0_0 x1001_1; replace p5 := eq_true p5; replace q5 := eq_true q5
        go_wp2_with (first | (go_at_call 68; (with_reducible refine (tok_Lex_1.calls (bt s0_0 x1001_1) false _ A6.out).mono ?_); rintro e w' ⟨rfl, ⟨nd, rfl⟩⟩; (try exact qW)))
        repeat (go_quiet (first | (go_at_call 68; (with_reducible refine (tok_Lex_1.calls (bt s0_0 x1001_1) false _ A6.out).mono ?_); rintro e w' ⟨rfl, ⟨nd, rfl⟩⟩; (try exact qW))); try go_wp2_with (first | (go_at_call 68; (with_reducible refine (tok_Lex_1.calls (bt s0_0 x1001_1) false _ A6.out).mono ?_); rintro e w' ⟨rfl, ⟨nd, rfl⟩⟩; (try exact qW))))
        go_ret; exact ⟨qR, qI, qB, qH⟩
       rw [if_neg c11] at H; exact absurd H (by simp)
      rw [if_neg c10] at H; exact absurd H (by simp)
     rw [if_neg c9] at H; exact absurd H (by simp)
    rw [if_neg c4] at H
    exact absurd H (by simp)
   by_cases c13 : 0 ≤ s0_1
   ·rw [if_pos c13] at H
    have c13b0 := eq_true c13
    have c13b1 := decide_eq_true c13
    clear c13
    by_cases c14 : s0_1 ≤ x1001_1
    ·rw [if_pos c14] at H; have c14b0 := eq_true c14; have c14b1 := decide_eq_true c14; clear c14
     by_cases c15 : x1001_1 ≤ (s0_0.size : Int)
     ·rw [if_pos c15] at H; have c15b0 := eq_true c15; have c15b1 := decide_eq_true c15; clear c15; simp only [Option.some.injEq, Prod.mk.injEq] at H; obtain ⟨rfl, rfl, rfl⟩ := H; obtain ⟨_, _, _, _⟩ := cellsI HI0.out
      go_wp2
      repeat (go_quiet (fail); try go_wp2)
      go_ret; exact ⟨qR, qI, qB, qH⟩
     rw [if_neg c15] at H; exact absurd H (by simp)
    rw [if_neg c14] at H
    exact absurd H (by simp)
   rw [if_neg c13] at H
   exact absurd H (by simp)
def tok_small.f (a0 : Int) : Option (Bool) := if a0 ≥ 97 then (some (decide (a0 ≤ 122))) else (some false)
set_option maxHeartbeats 8000000 in
set_option maxRecDepth 100000 in
theorem tok_small.calls (a0 : Int) (r : Bool) (w : World) (h : tok_small.f a0 = some r) :
  Calls Tryd.prog 102 #[.int .u8 a0] w fun e w' => e = .returned (.bool r) ∧ Drawn0 w w' := by
 have H : (if a0 ≥ 97 then (some (decide (a0 ≤ 122))) else (some false)) = some r := h
 clear h
 replace H := iD H
 rcases H with ⟨c2b0, H⟩ | ⟨c2b0, H⟩
 ·obtain rfl := Option.some.inj H
  go_enter Tryd.func102, Tryd.ntmps102
  go_wp2
  go_ret
  exact qN
 obtain rfl := Option.some.inj H
 go_enter Tryd.func102, Tryd.ntmps102
 go_wp2
 go_ret
 exact qN
def tok_digit.f (a0 : Int) : Option (Bool) := if a0 ≥ 48 then (some (decide (a0 ≤ 57))) else (some false)
set_option maxHeartbeats 8000000 in
set_option maxRecDepth 100000 in
theorem tok_digit.calls (a0 : Int) (r : Bool) (w : World) (h : tok_digit.f a0 = some r) :
  Calls Tryd.prog 104 #[.int .u8 a0] w fun e w' => e = .returned (.bool r) ∧ Drawn0 w w' := by
 have H : (if a0 ≥ 48 then (some (decide (a0 ≤ 57))) else (some false)) = some r := h
 clear h
 replace H := iD H
 rcases H with ⟨c2b0, H⟩ | ⟨c2b0, H⟩
 ·obtain rfl := Option.some.inj H
  go_enter Tryd.func104, Tryd.ntmps104
  go_wp2
  go_ret
  exact qN
 obtain rfl := Option.some.inj H
 go_enter Tryd.func104, Tryd.ntmps104
 go_wp2
 go_ret
 exact qN
def tok_reader_word_1.f (a0 : Int) : Option (Bool) := (tok_small.f a0).bind fun t101 => (if t101 = true then (some true) else ((tok_digit.f a0).bind fun t102 => (if t102 = true then (some true) else (some (a0 == 95)))))
set_option maxHeartbeats 8000000 in
set_option maxRecDepth 100000 in
theorem tok_reader_word_1.calls (a0 : Int) (r : Bool) (w : World) (h : tok_reader_word_1.f a0 = some r) :
  Calls Tryd.prog 152 #[.int .u8 a0] w fun e w' => e = .returned (.bool r) ∧ Drawn0 w w' := by
 have H : ((tok_small.f a0).bind fun t101 => (if t101 = true then (some true) else ((tok_digit.f a0).bind fun t102 => (if t102 = true then (some true) else (some (a0 == 95)))))) = some r := h
 clear h
 replace H := Option.bind_eq_some_iff.mp H
 obtain ⟨t101, A20, H⟩ := H
 (try dsimp -simprocs only at H)
 have A2 := Aside0.mk A20
 clear A20
 by_cases c3 : t101 = true
 ·subst c3
  rw [if_pos rfl] at H
  obtain rfl := Option.some.inj H
  go_enter Tryd.func152, Tryd.ntmps152
  go_wp2_with (first | ((with_reducible refine gc 102 rfl ?_); refine gl (some 4) #[.int .u8 a0] Tryd.func102 ?_; (with_reducible refine (tok_small.calls a0 true _ A2.out).mono ?_); rintro e w' ⟨rfl, ⟨nd, rfl⟩⟩; refine ⟨_, rfl, ?_⟩))
  go_ret
  exact qN
 replace c3 := Bool.eq_false_iff.mpr c3
 subst c3
 rw [if_neg (show ¬ (false = true) by decide)] at H
 replace H := Option.bind_eq_some_iff.mp H
 obtain ⟨t102, A40, H⟩ := H
 (try dsimp -simprocs only at H)
 have A4 := Aside0.mk A40
 clear A40
 by_cases c5 : t102 = true
 ·subst c5
  rw [if_pos rfl] at H
  obtain rfl := Option.some.inj H
  go_enter Tryd.func152, Tryd.ntmps152
  go_wp2_with (first | ((with_reducible refine gc 102 rfl ?_); refine gl (some 4) #[.int .u8 a0] Tryd.func102 ?_; (with_reducible refine (tok_small.calls a0 false _ A2.out).mono ?_); rintro e w' ⟨rfl, ⟨nd, rfl⟩⟩; refine ⟨_, rfl, ?_⟩) | (go_at_call 104; (with_reducible refine (tok_digit.calls a0 true _ A4.out).mono ?_); rintro e w' ⟨rfl, ⟨nd, rfl⟩⟩))
  go_ret
  exact qN
 replace c5 := Bool.eq_false_iff.mpr c5
 subst c5
 rw [if_neg (show ¬ (false = true) by decide)] at H
 obtain rfl := Option.some.inj H
 go_enter Tryd.func152, Tryd.ntmps152
 go_wp2_with (first | ((with_reducible refine gc 102 rfl ?_); refine gl (some 4) #[.int .u8 a0] Tryd.func102 ?_; (with_reducible refine (tok_small.calls a0 false _ A2.out).mono ?_); rintro e w' ⟨rfl, ⟨nd, rfl⟩⟩; refine ⟨_, rfl, ?_⟩) | (go_at_call 104; (with_reducible refine (tok_digit.calls a0 false _ A4.out).mono ?_); rintro e w' ⟨rfl, ⟨nd, rfl⟩⟩))
 go_ret
 exact qN
def tok_reader_while_word.l0 : Nat → Int → ByteArray → Int → Option (ByteArray × ByteArray × Int)
 | 0, _, _, _ => none
 | k + 1, x5, x1000, x1001 => if x1001 < (x1000.size : Int) then (if 0 ≤ x1001 then ((tok_reader_word_1.f (bt x1000 x1001)).bind fun t103 => (if t103 = true then (tok_reader_while_word.l0 k x5 x1000 (wrap64 (x1001 + 1))) else (if 0 ≤ x5 then (if x5 ≤ x1001 then (if x1001 ≤ (x1000.size : Int) then (some (x1000.extract (x5 : Int).toNat (x1001 : Int).toNat, x1000, x1001)) else (none)) else (none)) else (none)))) else (none)) else (if 0 ≤ x5 then (if x5 ≤ x1001 then (if x1001 ≤ (x1000.size : Int) then (some (x1000.extract (x5 : Int).toNat (x1001 : Int).toNat, x1000, x1001)) else (none)) else (none)) else (none))
def tok_reader_while_word.f (k : Nat) (s0_0 : ByteArray) (s0_1 : Int) : Option (ByteArray × ByteArray × Int) := tok_reader_while_word.l0 k s0_1 s0_0 s0_1
set_option maxHeartbeats 8000000 in
set_option maxRecDepth 100000 in
theorem tok_reader_while_word.calls (k : Nat) (g : Nat) (s0_0 : ByteArray) (s0_1 : Int) (r1 : ByteArray) (r2 : ByteArray) (r3 : Int) (w0 w : World) (hI : IsS122 w0 w g s0_0 s0_1) (hB : Below w0.heap.size w0 w) (h : tok_reader_while_word.f k s0_0 s0_1 = some (r1, r2, r3)) :
  Calls Tryd.prog 67 #[.pointer (some ⟨g, 0, none⟩), .func (.func 152) #[] #[]] w fun e w' => e = .returned (.string r1) ∧ IsS122 w0 w' g r2 r3 ∧ Below w0.heap.size w0 w' ∧ KeepBut w w' g none := by
 have HI0 := Aside0.mk hI
 have HK := Aside0.mk (KeepBut.refl w g none)
 have HL := Aside0.mk hB.size
 clear hI
 have HW0 := Aside0.mk hB.size
 have HB := Aside0.mk hB
 clear hB
 have H : (tok_reader_while_word.l0 k s0_1 s0_0 s0_1) = some (r1, r2, r3) := h
 clear h
 have H' := Aside0.mk H
 clear H
 obtain ⟨_, _, _, _⟩ := cellsI HI0.out
 go_enter Tryd.func67, Tryd.ntmps67
 go_wp2
 repeat (go_quiet (fail); try go_wp2)
 go_loopg [] k (fun kq w' => ∃ (x1001_1 : Int), Aside0 (tok_reader_while_word.l0 kq s0_1 s0_0 x1001_1 = some (r1, r2, r3)) ∧ Aside0 (kq ≤ k) ∧ Aside0 (IsS122 w0 w' g s0_0 x1001_1) ∧ Aside0 (KeepBut w w' g none) ∧ Aside0 (Below w0.heap.size w0 w'))
 case atStart => exact ⟨(s0_1), H', ⟨Nat.le_refl _⟩, ⟨qI⟩, ⟨qH⟩, ⟨qB⟩⟩
 case round =>
  clear H'
  try clear p2
  obtain ⟨x1001_1, HA, HK1, HI0, HK, HB⟩ := hrel
  cases gk with
  | zero => exact absurd HA.out (by simp [tok_reader_while_word.l0])
  | succ k1 =>
   have H := HA.out
   clear HA
   simp only [tok_reader_while_word.l0] at H
   replace H := iD H
   rcases H with ⟨c3b0, H⟩ | ⟨c3b0, H⟩
   ·by_cases c4 : 0 ≤ x1001_1
    ·rw [if_pos c4] at H; have c4b0 := decide_eq_true c4; clear c4; replace H := Option.bind_eq_some_iff.mp H; obtain ⟨t103, A60, H⟩ := H; (try dsimp -simprocs only at H); have A6 := Aside0.mk A60; clear A60
     by_cases c7 : t103 = true
     ·subst c7; rw [if_pos rfl] at H; have H' := Aside0.mk H; clear H; obtain ⟨_, _, _, _⟩ := cellsI HI0.out; have p5 : 0 ≤ (x1001_1 : Int) := qD; have q5 : x1001_1 < (s0_0.size : Int) := qD; have hx5 := bt_at s0_0 x1001_1; replace p5 := eq_true p5; replace q5 := eq_true q5
      go_wp2_with (first | (go_at_call 152; (with_reducible refine (tok_reader_word_1.calls (bt s0_0 x1001_1) true _ A6.out).mono ?_); rintro e w' ⟨rfl, ⟨nd, rfl⟩⟩; (try exact qW)))
      repeat (go_quiet (first | (go_at_call 152; (with_reducible refine (tok_reader_word_1.calls (bt s0_0 x1001_1) true _ A6.out).mono ?_); rintro e w' ⟨rfl, ⟨nd, rfl⟩⟩; (try exact qW))); try go_wp2_with (first | (go_at_call 152; (with_reducible refine (tok_reader_word_1.calls (bt s0_0 x1001_1) true _ A6.out).mono ?_); rintro e w' ⟨rfl, ⟨nd, rfl⟩⟩; (try exact qW))))
      go_roundg k1
      case measure => have := HK1.out; omega
      case rel => exact ⟨(wrap64 (x1001_1 + 1)), H', ⟨by have := HK1.out; omega⟩, ⟨qI⟩, ⟨qH⟩, ⟨qB⟩⟩
     replace c7 := Bool.eq_false_iff.mpr c7; subst c7; rw [if_neg (show ¬ (false = true) by decide)] at H
     by_cases c9 : 0 ≤ s0_1
     ·rw [if_pos c9] at H; have c9b0 := eq_true c9; have c9b1 := decide_eq_true c9; clear c9
      by_cases c10 : s0_1 ≤ x1001_1
      ·rw [if_pos c10] at H; have c10b0 := eq_true c10; have c10b1 := decide_eq_true c10; clear c10
       by_cases c11 : x1001_1 ≤ (s0_0.size : Int)
       ·rw [if_pos c11] at H; have c11b0 := eq_true c11; have c11b1 := decide_eq_true c11; clear c11; simp only [Option.some.injEq, Prod.mk.injEq] at H; obtain ⟨rfl, rfl, rfl⟩ := H; obtain ⟨_, _, _, _⟩ := cellsI HI0.out; have p5 : 0 ≤ (x1001_1 : Int) := qD; have q5 : x1001_1 < (s0_0.size : Int) := qD; have hx5 := bt_at s0_0 x1001_1; replace p5 := eq_true p5; replace q5 := eq_true q5
        go_wp2_with (first | (go_at_call 152; (with_reducible refine (tok_reader_word_1.calls (bt s0_0 x1001_1) false _ A6.out).mono ?_); rintro e w' ⟨rfl, ⟨nd, rfl⟩⟩; (try exact qW)))
        repeat (go_quiet (first | (go_at_call 152; (with_reducible refine (tok_reader_word_1.calls (bt s0_0 x1001_1) false _ A6.out).mono ?_); rintro e w' ⟨rfl, ⟨nd, rfl⟩⟩; (try exact qW))); try go_wp2_with (first | (go_at_call 152; (with_reducible refine (tok_reader_word_1.calls (bt s0_0 x1001_1) false _ A6.out).mono ?_); rintro e w' ⟨rfl, ⟨nd, rfl⟩⟩; (try exact qW))))
        go_ret; exact ⟨qR, qI, qB, qH⟩
       rw [if_neg c11] at H; exact absurd H (by simp)
      rw [if_neg c10] at H; exact absurd H (by simp)
     rw [if_neg c9] at H; exact absurd H (by simp)
    rw [if_neg c4] at H
    exact absurd H (by simp)
   by_cases c13 : 0 ≤ s0_1
   ·rw [if_pos c13] at H
    have c13b0 := eq_true c13
    have c13b1 := decide_eq_true c13
    clear c13
    by_cases c14 : s0_1 ≤ x1001_1
    ·rw [if_pos c14] at H; have c14b0 := eq_true c14; have c14b1 := decide_eq_true c14; clear c14
     by_cases c15 : x1001_1 ≤ (s0_0.size : Int)
     ·rw [if_pos c15] at H; have c15b0 := eq_true c15; have c15b1 := decide_eq_true c15; clear c15; simp only [Option.some.injEq, Prod.mk.injEq] at H; obtain ⟨rfl, rfl, rfl⟩ := H; obtain ⟨_, _, _, _⟩ := cellsI HI0.out
      go_wp2
      repeat (go_quiet (fail); try go_wp2)
      go_ret; exact ⟨qR, qI, qB, qH⟩
     rw [if_neg c15] at H; exact absurd H (by simp)
    rw [if_neg c14] at H
    exact absurd H (by simp)
   rw [if_neg c13] at H
   exact absurd H (by simp)
def tok_reader_while_digit.l0 : Nat → Int → ByteArray → Int → Option (ByteArray × ByteArray × Int)
 | 0, _, _, _ => none
 | k + 1, x5, x1000, x1001 => if x1001 < (x1000.size : Int) then (if 0 ≤ x1001 then ((tok_digit.f (bt x1000 x1001)).bind fun t116 => (if t116 = true then (tok_reader_while_digit.l0 k x5 x1000 (wrap64 (x1001 + 1))) else (if 0 ≤ x5 then (if x5 ≤ x1001 then (if x1001 ≤ (x1000.size : Int) then (some (x1000.extract (x5 : Int).toNat (x1001 : Int).toNat, x1000, x1001)) else (none)) else (none)) else (none)))) else (none)) else (if 0 ≤ x5 then (if x5 ≤ x1001 then (if x1001 ≤ (x1000.size : Int) then (some (x1000.extract (x5 : Int).toNat (x1001 : Int).toNat, x1000, x1001)) else (none)) else (none)) else (none))
def tok_reader_while_digit.f (k : Nat) (s0_0 : ByteArray) (s0_1 : Int) : Option (ByteArray × ByteArray × Int) := tok_reader_while_digit.l0 k s0_1 s0_0 s0_1
set_option maxHeartbeats 8000000 in
set_option maxRecDepth 100000 in
theorem tok_reader_while_digit.calls (k : Nat) (g : Nat) (s0_0 : ByteArray) (s0_1 : Int) (r1 : ByteArray) (r2 : ByteArray) (r3 : Int) (w0 w : World) (hI : IsS122 w0 w g s0_0 s0_1) (hB : Below w0.heap.size w0 w) (h : tok_reader_while_digit.f k s0_0 s0_1 = some (r1, r2, r3)) :
  Calls Tryd.prog 67 #[.pointer (some ⟨g, 0, none⟩), .func (.func 104) #[] #[]] w fun e w' => e = .returned (.string r1) ∧ IsS122 w0 w' g r2 r3 ∧ Below w0.heap.size w0 w' ∧ KeepBut w w' g none := by
 have HI0 := Aside0.mk hI
 have HK := Aside0.mk (KeepBut.refl w g none)
 have HL := Aside0.mk hB.size
 clear hI
 have HW0 := Aside0.mk hB.size
 have HB := Aside0.mk hB
 clear hB
 have H : (tok_reader_while_digit.l0 k s0_1 s0_0 s0_1) = some (r1, r2, r3) := h
 clear h
 have H' := Aside0.mk H
 clear H
 obtain ⟨_, _, _, _⟩ := cellsI HI0.out
 go_enter Tryd.func67, Tryd.ntmps67
 go_wp2
 repeat (go_quiet (fail); try go_wp2)
 go_loopg [] k (fun kq w' => ∃ (x1001_1 : Int), Aside0 (tok_reader_while_digit.l0 kq s0_1 s0_0 x1001_1 = some (r1, r2, r3)) ∧ Aside0 (kq ≤ k) ∧ Aside0 (IsS122 w0 w' g s0_0 x1001_1) ∧ Aside0 (KeepBut w w' g none) ∧ Aside0 (Below w0.heap.size w0 w'))
 case atStart => exact ⟨(s0_1), H', ⟨Nat.le_refl _⟩, ⟨qI⟩, ⟨qH⟩, ⟨qB⟩⟩
 case round =>
  clear H'
  try clear p2
  obtain ⟨x1001_1, HA, HK1, HI0, HK, HB⟩ := hrel
  cases gk with
  | zero => exact absurd HA.out (by simp [tok_reader_while_digit.l0])
  | succ k1 =>
   have H := HA.out
   clear HA
   simp only [tok_reader_while_digit.l0] at H
   replace H := iD H
   rcases H with ⟨c3b0, H⟩ | ⟨c3b0, H⟩
   ·by_cases c4 : 0 ≤ x1001_1
    ·rw [if_pos c4] at H; have c4b0 := decide_eq_true c4; clear c4; replace H := Option.bind_eq_some_iff.mp H; obtain ⟨t116, A60, H⟩ := H; (try dsimp -simprocs only at H); have A6 := Aside0.mk A60; clear A60
     by_cases c7 : t116 = true
     ·subst c7; rw [if_pos rfl] at H; have H' := Aside0.mk H; clear H; obtain ⟨_, _, _, _⟩ := cellsI HI0.out; have p5 : 0 ≤ (x1001_1 : Int) := qD; have q5 : x1001_1 < (s0_0.size : Int) := qD; have hx5 := bt_at s0_0 x1001_1; replace p5 := eq_true p5; replace q5 := eq_true q5
      go_wp2_with (first | (go_at_call 104; (with_reducible refine (tok_digit.calls (bt s0_0 x1001_1) true _ A6.out).mono ?_); rintro e w' ⟨rfl, ⟨nd, rfl⟩⟩; (try exact qW)))
      repeat (go_quiet (first | (go_at_call 104; (with_reducible refine (tok_digit.calls (bt s0_0 x1001_1) true _ A6.out).mono ?_); rintro e w' ⟨rfl, ⟨nd, rfl⟩⟩; (try exact qW))); try go_wp2_with (first | (go_at_call 104; (with_reducible refine (tok_digit.calls (bt s0_0 x1001_1) true _ A6.out).mono ?_); rintro e w' ⟨rfl, ⟨nd, rfl⟩⟩; (try exact qW))))
      go_roundg k1
      case measure => have := HK1.out; omega
      case rel => exact ⟨(wrap64 (x1001_1 + 1)), H', ⟨by have := HK1.out; omega⟩, ⟨qI⟩, ⟨qH⟩, ⟨qB⟩⟩
     replace c7 := Bool.eq_false_iff.mpr c7; subst c7; rw [if_neg (show ¬ (false = true) by decide)] at H
     by_cases c9 : 0 ≤ s0_1
     ·rw [if_pos c9] at H; have c9b0 := eq_true c9; have c9b1 := decide_eq_true c9; clear c9
      by_cases c10 : s0_1 ≤ x1001_1
      ·rw [if_pos c10] at H; have c10b0 := eq_true c10; have c10b1 := decide_eq_true c10; clear c10
       by_cases c11 : x1001_1 ≤ (s0_0.size : Int)
       ·rw [if_pos c11] at H; have c11b0 := eq_true c11; have c11b1 := decide_eq_true c11; clear c11; simp only [Option.some.injEq, Prod.mk.injEq] at H; obtain ⟨rfl, rfl, rfl⟩ := H; obtain ⟨_, _, _, _⟩ := cellsI HI0.out; have p5 : 0 ≤ (x1001_1 : Int) := qD; have q5 : x1001_1 < (s0_0.size : Int) := qD; have hx5 := bt_at s0_0 x1001_1; replace p5 := eq_true p5; replace q5 := eq_true q5
        go_wp2_with (first | (go_at_call 104; (with_reducible refine (tok_digit.calls (bt s0_0 x1001_1) false _ A6.out).mono ?_); rintro e w' ⟨rfl, ⟨nd, rfl⟩⟩; (try exact qW)))
        repeat (go_quiet (first | (go_at_call 104; (with_reducible refine (tok_digit.calls (bt s0_0 x1001_1) false _ A6.out).mono ?_); rintro e w' ⟨rfl, ⟨nd, rfl⟩⟩; (try exact qW))); try go_wp2_with (first | (go_at_call 104; (with_reducible refine (tok_digit.calls (bt s0_0 x1001_1) false _ A6.out).mono ?_); rintro e w' ⟨rfl, ⟨nd, rfl⟩⟩; (try exact qW))))
        go_ret; exact ⟨qR, qI, qB, qH⟩
       rw [if_neg c11] at H; exact absurd H (by simp)
      rw [if_neg c10] at H; exact absurd H (by simp)
     rw [if_neg c9] at H; exact absurd H (by simp)
    rw [if_neg c4] at H
    exact absurd H (by simp)
   by_cases c13 : 0 ≤ s0_1
   ·rw [if_pos c13] at H
    have c13b0 := eq_true c13
    have c13b1 := decide_eq_true c13
    clear c13
    by_cases c14 : s0_1 ≤ x1001_1
    ·rw [if_pos c14] at H; have c14b0 := eq_true c14; have c14b1 := decide_eq_true c14; clear c14
     by_cases c15 : x1001_1 ≤ (s0_0.size : Int)
     ·rw [if_pos c15] at H; have c15b0 := eq_true c15; have c15b1 := decide_eq_true c15; clear c15; simp only [Option.some.injEq, Prod.mk.injEq] at H; obtain ⟨rfl, rfl, rfl⟩ := H; obtain ⟨_, _, _, _⟩ := cellsI HI0.out
      go_wp2
      repeat (go_quiet (fail); try go_wp2)
      go_ret; exact ⟨qR, qI, qB, qH⟩
     rw [if_neg c15] at H; exact absurd H (by simp)
    rw [if_neg c14] at H
    exact absurd H (by simp)
   rw [if_neg c13] at H
   exact absurd H (by simp)
def tok_reader_quote_1.f (a0 : Int) : Option (Bool) := some (a0 != 39)
set_option maxHeartbeats 8000000 in
set_option maxRecDepth 100000 in
theorem tok_reader_quote_1.calls (a0 : Int) (r : Bool) (w : World) (h : tok_reader_quote_1.f a0 = some r) :
  Calls Tryd.prog 133 #[.int .u8 a0] w fun e w' => e = .returned (.bool r) ∧ Drawn0 w w' := by
 have H : (some (a0 != 39)) = some r := h
 clear h
 obtain rfl := Option.some.inj H
 go_enter Tryd.func133, Tryd.ntmps133
 go_wp2
 go_ret
 exact qN
def tok_reader_while_quote.l0 : Nat → Int → ByteArray → Int → Option (ByteArray × ByteArray × Int)
 | 0, _, _, _ => none
 | k + 1, x5, x1000, x1001 => if x1001 < (x1000.size : Int) then (if 0 ≤ x1001 then ((tok_reader_quote_1.f (bt x1000 x1001)).bind fun t117 => (if t117 = true then (tok_reader_while_quote.l0 k x5 x1000 (wrap64 (x1001 + 1))) else (if 0 ≤ x5 then (if x5 ≤ x1001 then (if x1001 ≤ (x1000.size : Int) then (some (x1000.extract (x5 : Int).toNat (x1001 : Int).toNat, x1000, x1001)) else (none)) else (none)) else (none)))) else (none)) else (if 0 ≤ x5 then (if x5 ≤ x1001 then (if x1001 ≤ (x1000.size : Int) then (some (x1000.extract (x5 : Int).toNat (x1001 : Int).toNat, x1000, x1001)) else (none)) else (none)) else (none))
def tok_reader_while_quote.f (k : Nat) (s0_0 : ByteArray) (s0_1 : Int) : Option (ByteArray × ByteArray × Int) := tok_reader_while_quote.l0 k s0_1 s0_0 s0_1
set_option maxHeartbeats 8000000 in
set_option maxRecDepth 100000 in
theorem tok_reader_while_quote.calls (k : Nat) (g : Nat) (s0_0 : ByteArray) (s0_1 : Int) (r1 : ByteArray) (r2 : ByteArray) (r3 : Int) (w0 w : World) (hI : IsS122 w0 w g s0_0 s0_1) (hB : Below w0.heap.size w0 w) (h : tok_reader_while_quote.f k s0_0 s0_1 = some (r1, r2, r3)) :
  Calls Tryd.prog 67 #[.pointer (some ⟨g, 0, none⟩), .func (.func 133) #[] #[]] w fun e w' => e = .returned (.string r1) ∧ IsS122 w0 w' g r2 r3 ∧ Below w0.heap.size w0 w' ∧ KeepBut w w' g none := by
 have HI0 := Aside0.mk hI
 have HK := Aside0.mk (KeepBut.refl w g none)
 have HL := Aside0.mk hB.size
 clear hI
 have HW0 := Aside0.mk hB.size
 have HB := Aside0.mk hB
 clear hB
 have H : (tok_reader_while_quote.l0 k s0_1 s0_0 s0_1) = some (r1, r2, r3) := h
 clear h
 have H' := Aside0.mk H
 clear H
 obtain ⟨_, _, _, _⟩ := cellsI HI0.out
 go_enter Tryd.func67, Tryd.ntmps67
 go_wp2
 repeat (go_quiet (fail); try go_wp2)
 go_loopg [] k (fun kq w' => ∃ (x1001_1 : Int), Aside0 (tok_reader_while_quote.l0 kq s0_1 s0_0 x1001_1 = some (r1, r2, r3)) ∧ Aside0 (kq ≤ k) ∧ Aside0 (IsS122 w0 w' g s0_0 x1001_1) ∧ Aside0 (KeepBut w w' g none) ∧ Aside0 (Below w0.heap.size w0 w'))
 case atStart => exact ⟨(s0_1), H', ⟨Nat.le_refl _⟩, ⟨qI⟩, ⟨qH⟩, ⟨qB⟩⟩
 case round =>
  clear H'
  try clear p2
  obtain ⟨x1001_1, HA, HK1, HI0, HK, HB⟩ := hrel
  cases gk with
  | zero => exact absurd HA.out (by simp [tok_reader_while_quote.l0])
  | succ k1 =>
   have H := HA.out
   clear HA
   simp only [tok_reader_while_quote.l0] at H
   replace H := iD H
   rcases H with ⟨c3b0, H⟩ | ⟨c3b0, H⟩
   ·by_cases c4 : 0 ≤ x1001_1
    ·rw [if_pos c4] at H; have c4b0 := decide_eq_true c4; clear c4; replace H := Option.bind_eq_some_iff.mp H; obtain ⟨t117, A60, H⟩ := H; (try dsimp -simprocs only at H); have A6 := Aside0.mk A60; clear A60
     by_cases c7 : t117 = true
     ·subst c7; rw [if_pos rfl] at H; have H' := Aside0.mk H; clear H; obtain ⟨_, _, _, _⟩ := cellsI HI0.out; have p5 : 0 ≤ (x1001_1 : Int) := qD; have q5 : x1001_1 < (s0_0.size : Int) := qD; have hx5 := bt_at s0_0 x1001_1; replace p5 := eq_true p5; replace q5 := eq_true q5
      go_wp2_with (first | (go_at_call 133; (with_reducible refine (tok_reader_quote_1.calls (bt s0_0 x1001_1) true _ A6.out).mono ?_); rintro e w' ⟨rfl, ⟨nd, rfl⟩⟩; (try exact qW)))
      repeat (go_quiet (first | (go_at_call 133; (with_reducible refine (tok_reader_quote_1.calls (bt s0_0 x1001_1) true _ A6.out).mono ?_); rintro e w' ⟨rfl, ⟨nd, rfl⟩⟩; (try exact qW))); try go_wp2_with (first | (go_at_call 133; (with_reducible refine (tok_reader_quote_1.calls (bt s0_0 x1001_1) true _ A6.out).mono ?_); rintro e w' ⟨rfl, ⟨nd, rfl⟩⟩; (try exact qW))))
      go_roundg k1
      case measure => have := HK1.out; omega
      case rel => exact ⟨(wrap64 (x1001_1 + 1)), H', ⟨by have := HK1.out; omega⟩, ⟨qI⟩, ⟨qH⟩, ⟨qB⟩⟩
     replace c7 := Bool.eq_false_iff.mpr c7; subst c7; rw [if_neg (show ¬ (false = true) by decide)] at H
     by_cases c9 : 0 ≤ s0_1
     ·rw [if_pos c9] at H; have c9b0 := eq_true c9; have c9b1 := decide_eq_true c9; clear c9
      by_cases c10 : s0_1 ≤ x1001_1
      ·rw [if_pos c10] at H; have c10b0 := eq_true c10; have c10b1 := decide_eq_true c10; clear c10
       by_cases c11 : x1001_1 ≤ (s0_0.size : Int)
       ·rw [if_pos c11] at H; have c11b0 := eq_true c11; have c11b1 := decide_eq_true c11; clear c11; simp only [Option.some.injEq, Prod.mk.injEq] at H; obtain ⟨rfl, rfl, rfl⟩ := H; obtain ⟨_, _, _, _⟩ := cellsI HI0.out; have p5 : 0 ≤ (x1001_1 : Int) := qD; have q5 : x1001_1 < (s0_0.size : Int) := qD; have hx5 := bt_at s0_0 x1001_1; replace p5 := eq_true p5; replace q5 := eq_true q5
        go_wp2_with (first | (go_at_call 133; (with_reducible refine (tok_reader_quote_1.calls (bt s0_0 x1001_1) false _ A6.out).mono ?_); rintro e w' ⟨rfl, ⟨nd, rfl⟩⟩; (try exact qW)))
        repeat (go_quiet (first | (go_at_call 133; (with_reducible refine (tok_reader_quote_1.calls (bt s0_0 x1001_1) false _ A6.out).mono ?_); rintro e w' ⟨rfl, ⟨nd, rfl⟩⟩; (try exact qW))); try go_wp2_with (first | (go_at_call 133; (with_reducible refine (tok_reader_quote_1.calls (bt s0_0 x1001_1) false _ A6.out).mono ?_); rintro e w' ⟨rfl, ⟨nd, rfl⟩⟩; (try exact qW))))
        go_ret; exact ⟨qR, qI, qB, qH⟩
       rw [if_neg c11] at H; exact absurd H (by simp)
      rw [if_neg c10] at H; exact absurd H (by simp)
     rw [if_neg c9] at H; exact absurd H (by simp)
    rw [if_neg c4] at H
    exact absurd H (by simp)
   by_cases c13 : 0 ≤ s0_1
   ·rw [if_pos c13] at H
    have c13b0 := eq_true c13
    have c13b1 := decide_eq_true c13
    clear c13
    by_cases c14 : s0_1 ≤ x1001_1
    ·rw [if_pos c14] at H; have c14b0 := eq_true c14; have c14b1 := decide_eq_true c14; clear c14
     by_cases c15 : x1001_1 ≤ (s0_0.size : Int)
     ·rw [if_pos c15] at H; have c15b0 := eq_true c15; have c15b1 := decide_eq_true c15; clear c15; simp only [Option.some.injEq, Prod.mk.injEq] at H; obtain ⟨rfl, rfl, rfl⟩ := H; obtain ⟨_, _, _, _⟩ := cellsI HI0.out
      go_wp2
      repeat (go_quiet (fail); try go_wp2)
      go_ret; exact ⟨qR, qI, qB, qH⟩
     rw [if_neg c15] at H; exact absurd H (by simp)
    rw [if_neg c14] at H
    exact absurd H (by simp)
   rw [if_neg c13] at H
   exact absurd H (by simp)
def stringslite_HasPrefix.f (a0 : ByteArray) (a1 : ByteArray) : Option (Bool) := if (a0.size : Int) ≥ (a1.size : Int) then (if 0 ≤ (a1.size : Int) then (if (a1.size : Int) ≤ (a0.size : Int) then (some ((a0.extract 0 ((a1.size : Int) : Int).toNat).toList == a1.toList)) else (none)) else (none)) else (some false)
set_option maxHeartbeats 8000000 in
set_option maxRecDepth 100000 in
theorem stringslite_HasPrefix.calls (a0 : ByteArray) (a1 : ByteArray) (r : Bool) (w : World) (h : stringslite_HasPrefix.f a0 a1 = some r) :
  Calls Tryd.prog 153 #[.string a0, .string a1] w fun e w' => e = .returned (.bool r) ∧ Drawn0 w w' := by
 have H : (if (a0.size : Int) ≥ (a1.size : Int) then (if 0 ≤ (a1.size : Int) then (if (a1.size : Int) ≤ (a0.size : Int) then (some ((a0.extract 0 ((a1.size : Int) : Int).toNat).toList == a1.toList)) else (none)) else (none)) else (some false)) = some r := h
 clear h
 by_cases c3 : (a0.size : Int) ≥ (a1.size : Int)
 ·rw [if_pos c3] at H
  have c3b0 := decide_eq_true c3
  have c3b1 : decide (a1.size ≤ a0.size) = true := decide_eq_true (Int.ofNat_le.mp c3)
  clear c3
  by_cases c4 : 0 ≤ (a1.size : Int)
  ·rw [if_pos c4] at H
   have c4b0 := eq_true c4
   have c4b1 := decide_eq_true c4
   clear c4
   by_cases c5 : (a1.size : Int) ≤ (a0.size : Int)
   ·rw [if_pos c5] at H
    have c5b0 := eq_true c5
    have c5b1 := decide_eq_true c5
    clear c5
    obtain rfl := Option.some.inj H
    go_enter Tryd.func153, Tryd.ntmps153
    go_wp2
    go_ret
    exact qN
   rw [if_neg c5] at H
   exact absurd H (by simp)
  rw [if_neg c4] at H
  exact absurd H (by simp)
 rw [if_neg c3] at H
 have c3b0 := decide_eq_false c3
 have c3b1 : decide (a1.size ≤ a0.size) = false := decide_eq_false (fun h => c3 (Int.ofNat_le.mpr h))
 clear c3
 obtain rfl := Option.some.inj H
 go_enter Tryd.func153, Tryd.ntmps153
 go_wp2
 go_ret
 exact qN
def strings_HasPrefix.f (a0 : ByteArray) (a1 : ByteArray) : Option (Bool) := (stringslite_HasPrefix.f a0 a1).bind fun t123 => (some t123)
set_option maxHeartbeats 8000000 in
set_option maxRecDepth 100000 in
theorem strings_HasPrefix.calls (a0 : ByteArray) (a1 : ByteArray) (r : Bool) (w : World) (h : strings_HasPrefix.f a0 a1 = some r) :
  Calls Tryd.prog 134 #[.string a0, .string a1] w fun e w' => e = .returned (.bool r) ∧ Drawn0 w w' := by
 have H : ((stringslite_HasPrefix.f a0 a1).bind fun t123 => (some t123)) = some r := h
 clear h
 replace H := Option.bind_eq_some_iff.mp H
 obtain ⟨t123, A30, H⟩ := H
 (try dsimp -simprocs only at H)
 have A3 := Aside0.mk A30
 clear A30
 obtain rfl := Option.some.inj H
 go_enter Tryd.func134, Tryd.ntmps134
 go_wp2_with (first | ((with_reducible refine gc 153 rfl ?_); refine gl (some 7) #[.string a0, .string a1] Tryd.func153 ?_; (with_reducible refine (stringslite_HasPrefix.calls a0 a1 t123 _ A3.out).mono ?_); rintro e w' ⟨rfl, ⟨nd, rfl⟩⟩; refine ⟨_, rfl, ?_⟩))
 go_ret
 exact qN
end Go.Proofs.YtbngfhlciebeeaaDoor.L
end
section
namespace Go.Proofs.YtbngfhlciebeeaaDoor.L
set_option linter.unusedVariables false
set_option linter.unusedSimpArgs false
open Go.RowKit Go.Proofs.YtbngfhlciebeeaaDoorW.PrintWords Go.Proofs.YtbngfhlciebeeaaDoorW.PrintLast Go.Proofs.YtbngfhlciebeeaaDoorW.PrintMore
def numFold : List UInt8 → Int → Option Int
  | [], n => some n
  | c :: l, n => if n > (9223372036854775807 - ((c.toNat : Int) - 48)) / 10 then none else numFold l (n * 10 + ((c.toNat : Int) - 48))
def isDigit (c : UInt8) : Bool := decide (48 ≤ c.toNat) && decide (c.toNat ≤ 57)
def tok_reader_number.of (s : ByteArray) (t : ByteArray) (i : Int) : Option (Int × ByteArray × Int × Int × Int × ByteArray × Int) :=
  if s.size ≤ 140737488351232 ∧ s.data.toList.all isDigit = true then
    if 1 < s.size ∧ s.data.toList.getD 0 0 = 48 then some (0, ⟨#[]⟩, 0, 0, 11, t, i)
    else match numFold s.data.toList 0 with
      | none => some (0, ⟨#[]⟩, 0, 0, 21, t, i)
      | some n => some (3, s, n, 0, 0, t, i)
  else none
def tok_reader_number.f (k : Nat) (s0_0 : ByteArray) (s0_1 : Int) : Option (Int × ByteArray × Int × Int × Int × ByteArray × Int) :=
  (tok_reader_while_digit.f k s0_0 s0_1).bind fun bt => tok_reader_number.of bt.1 bt.2.1 bt.2.2
theorem byte_at (s : ByteArray) (i : Nat) (h : i < s.size) : (s[i]'h) = s.data.toList.getD i 0 := by
  have h' : i < s.data.toList.length := by rw [data_length]; exact h
  simp [List.getD_eq_getElem?_getD, List.getElem?_eq_getElem h']
  rfl
theorem number_end {fn : Func} (hfn : fn.results = #[.cell 2 32, .tmp 3]) {w0 w W : World} {g : Nat} {cs : Array Value} {a : Int} {b : ByteArray} {c d e : Int} {t : ByteArray} {i : Int} {act : Act}
    (hG : W.heap[w.heap.size]? = some (.cells cs 32 (0, 0))) (hI : IsS122 w0 W g t i) (hg : g < w.heap.size) (hB : Below w0.heap.size w0 W) (hs : w0.heap.size ≤ w.heap.size)
    (hK0 : KeepBut w W g none) (hc : cs.size = 4) (hr : act.tmps.getD 2 undef = .pointer (some ⟨w.heap.size, 0, none⟩) ∧ act.tmps.getD 3 undef = .int .i64 e ∧ act.defers = []) :
    bodyPost Tryd.prog fn (fun en w' => en = .returned (.tuple #[.agg #[.int .i64 a, .string b, .int .i64 c, .int .i64 d], .int .i64 e]) ∧ IsS122 w0 w' g t i ∧ Below w0.heap.size w0 w' ∧ KeepBut w w' g none)
      .ret act ((((W.setCell ⟨w.heap.size, 0, none⟩ (.int .i64 a)).setCell ⟨w.heap.size, 1, none⟩ (.string b)).setCell ⟨w.heap.size, 2, none⟩ (.int .i64 c)).setCell ⟨w.heap.size, 3, none⟩ (.int .i64 d)) := by
  obtain ⟨h2, h3, h4⟩ := hr
  obtain ⟨a0, a1, a2, a3, rfl⟩ : ∃ a0 a1 a2 a3, cs = #[a0, a1, a2, a3] := by
    obtain ⟨l⟩ := cs
    match l, hc with
    | [a0, a1, a2, a3], _ => exact ⟨a0, a1, a2, a3, rfl⟩
  have hne : g ≠ w.heap.size := by omega
  have b3 := blk_put (cs' := #[.int .i64 a, .string b, .int .i64 c, .int .i64 d]) (blk_put (cs' := #[.int .i64 a, .string b, .int .i64 c, a3]) (blk_put (cs' := #[.int .i64 a, .string b, a2, a3]) (blk_put (cs' := #[.int .i64 a, a1, a2, a3]) hG 0 (.int .i64 a) rfl) 1 (.string b) rfl) 2 (.int .i64 c) rfl) 3 (.int .i64 d) rfl
  refine bodyPost_ret (results_ct hfn _ _ w.heap.size 32 #[.int .i64 a, .string b, .int .i64 c, .int .i64 d] (0, 0) _ h2 b3 Tryd.underlying32 rfl (by kernel_rfl)) h4 ?_
  rw [h3]
  refine ⟨rfl, ((((hI.far ?_ _).far ?_ _).far ?_ _).far ?_ _), ((((below_set (below_set (below_set (below_set hB hs) hs) hs) hs)))), keep_far (keep_far (keep_far (keep_far hK0 ?_ _) ?_ _) ?_ _) ?_ _⟩
  all_goals first | exact hne | exact Nat.le_refl _
theorem drop_cons (s : ByteArray) (m : Nat) (hl : m < s.data.toList.length) (c : UInt8) (hc : s.data.toList.getD m 0 = c) : s.data.toList.drop m = c :: s.data.toList.drop (m + 1) := by
  rw [List.drop_eq_getElem_cons hl]
  congr 1
  rw [← hc, List.getD_eq_getElem?_getD, List.getElem?_eq_getElem hl]
  rfl
set_option maxHeartbeats 2000000 in
set_option maxRecDepth 100000 in
theorem number_core (k : Nat) (g : Nat) (s0_0 : ByteArray) (s0_1 : Int) (s : ByteArray) (t : ByteArray) (i : Int) (r1 : Int) (r2 : ByteArray) (r3 r4 r5 : Int) (r6 : ByteArray) (r7 : Int) (w0 w : World) (hI : IsS122 w0 w g s0_0 s0_1) (hB : Below w0.heap.size w0 w)
    (hw : tok_reader_while_digit.f k s0_0 s0_1 = some (s, t, i)) (h : tok_reader_number.of s t i = some (r1, r2, r3, r4, r5, r6, r7)) :
    Calls Tryd.prog 105 #[.pointer (some ⟨g, 0, none⟩)] w fun e w' => e = .returned (.tuple #[.agg #[.int .i64 r1, .string r2, .int .i64 r3, .int .i64 r4], .int .i64 r5]) ∧ IsS122 w0 w' g r6 r7 ∧ Below w0.heap.size w0 w' ∧ KeepBut w w' g none := by
  have HW := Aside0.mk hw
  have HH := Aside0.mk h
  have HI := Aside0.mk hI
  have HB := Aside0.mk hB
  clear hw h hI hB
  go_enter Tryd.func105, Tryd.ntmps105
  go_wp2_with fail
  refine (tok_reader_while_digit.calls k g s0_0 s0_1 s t i w0 _ (HI.out.alloc _) (below_alloc HB.out _) HW.out).mono ?_
  rintro e w1 ⟨rfl, hI1, hB1, hK1⟩
  have hG := hK1.blk (heap_alloc_new w _) (by have := IsS122.lt HI.out; omega) (by simp)
  have HG := Aside0.mk hG
  have hc0 := blk_cell hG 0
  have hc1 := blk_cell hG 1
  have hc2 := blk_cell hG 2
  have hc3 := blk_cell hG 3
  have hf0 := blk_frozen hG 0
  have hf1 := blk_frozen hG 1
  have hf2 := blk_frozen hG 2
  have hf3 := blk_frozen hG 3
  simp at hc0 hc1 hc2 hc3
  have HI1 := Aside0.mk hI1
  have HB1 := Aside0.mk hB1
  have HK1 := Aside0.mk hK1
  clear hI1 hB1 hK1 hG
  have h := HH.out
  unfold tok_reader_number.of at h
  by_cases hs : s.size ≤ 140737488351232 ∧ s.data.toList.all isDigit = true
  · rw [if_pos hs] at h
    obtain ⟨hs1, hs2⟩ := hs
    have HS2 := Aside0.mk hs2
    clear hs2
    by_cases hz : 1 < s.size ∧ s.data.toList.getD 0 0 = 48
    · rw [if_pos hz] at h
      simp only [Option.some.injEq, Prod.mk.injEq] at h
      obtain ⟨rfl, rfl, rfl, rfl, rfl, rfl, rfl⟩ := h
      obtain ⟨hz1, hz2⟩ := hz
      have hz3 : ∀ h : 0 < s.size, (((s[0]'h).toNat : Int) == 48) = true := fun h => by
        rw [beq_iff_eq, byte_at s 0 h, hz2]; rfl
      clear hz2
      go_wp2
      exact number_end rfl (W := w1) (cs := #[.int .i64 0, .string ⟨#[]⟩, .int .i64 0, .int .i64 0]) HG.out HI1.out (IsS122.lt HI.out) (Below.mono HB1.out (Nat.le_refl _)) (Nat.le_trans (by simpa using HB.out.size) (Nat.le_refl _)) ((keep_alloc (KeepBut.refl w g none) _).trans HK1.out (.inl rfl)) rfl ⟨rfl, rfl, rfl⟩
    · rw [if_neg hz] at h
      have HH2 := Aside0.mk h
      clear h HH
      have hz' : (∀ h : 0 < s.size, (((s[0]'h).toNat : Int) == 48) = false) ∧ 1 < s.size ∨ s.size ≤ 1 := by
        by_cases h1 : 1 < s.size
        · refine .inl ⟨fun h => ?_, h1⟩
          rw [beq_eq_false_iff_ne, byte_at s 0 h]
          intro e
          exact hz ⟨h1, UInt8.toNat_inj.1 (by simpa using (by omega : (s.data.toList.getD 0 0).toNat = 48))⟩
        · exact .inr (by omega)
      clear hz
      have kb := fun W => print_bytes (P := Tryd.prog) 9 131 5 Tryd.underlying9 Tryd.underlying131 Tryd.underlying5 s W
      rcases hz' with ⟨hz3, hz1⟩ | hz1
      all_goals
        go_wp2
        have hb2 := bytes_below (Below.refl w1.heap.size w1) (Nat.le_refl _) 5 s
        have HC := Aside0.mk (fun (j : Nat) (hj : j < s.size) => Lib.bytesWorld_cell w1 5 s j hj)
        have HG2 := Aside0.mk (blk_below HG.out hb2)
        have HI2 := Aside0.mk (IsS122.below HI1.out hb2)
        have HB2 := Aside0.mk (below_then HB1.out HB1.out.size hb2)
        have HK2 := Aside0.mk (KeepBut.trans HK1.out (KeepBut.of_below hb2 g none) (.inl rfl))
        clear hb2 HG HI1 HB1 HK1 hf0 hf1 hf2 hf3 hc0 hc1 hc2 hc3 kb
        generalize grownCap w1 s.size 0 5 = cp
        generalize Lib.bytesWorld w1 5 s = W2 at HC HG2 HI2 HB2 HK2 ⊢
        generalize w1.heap.size = B at HC ⊢
        go_loop [5, 23] (fun n i => ∃ (m : Nat) (N : Int), m ≤ s.size ∧ i = .int .i64 m ∧ n = .int .i64 N ∧ 0 ≤ N ∧ N ≤ 9223372036854775807 ∧ Aside0 (numFold (s.data.toList.drop m) N = numFold s.data.toList 0)) (fun _ i => s.size - (intOf i).toNat)
        case atStart => exact ⟨0, 0, Nat.zero_le _, rfl, rfl, by omega, by omega, ⟨rfl⟩⟩
        case round =>
          obtain ⟨m, N, hm, rfl, rfl, hN0, hN1, hF⟩ := hrel
          by_cases hlt : m < s.size
          · have hcell := HC.out m hlt
            have hl : m < s.data.toList.length := by rw [data_length]; exact hlt
            obtain ⟨c, Hc⟩ : ∃ c, Aside0 (s.data.toList.getD m 0 = c) := ⟨_, ⟨rfl⟩⟩
            rw [Hc.out] at hcell
            have hdg : 48 ≤ (c.toNat : Int) ∧ (c.toNat : Int) ≤ 57 := by
              have h1 := List.all_eq_true.1 HS2.out c (by rw [← Hc.out]; rw [List.getD_eq_getElem?_getD, List.getElem?_eq_getElem hl]; exact List.getElem_mem hl)
              unfold isDigit at h1
              simp at h1
              omega
            obtain ⟨hd1, hd2⟩ := hdg
            have HD := Aside0.mk (drop_cons s m hl c Hc.out)
            clear HC
            have hG2 := HG2.out
            have hf0 := blk_frozen hG2 0
            have hf1 := blk_frozen hG2 1
            have hf2 := blk_frozen hG2 2
            have hf3 := blk_frozen hG2 3
            have hc0 := blk_cell hG2 0
            have hc1 := blk_cell hG2 1
            have hc2 := blk_cell hG2 2
            have hc3 := blk_cell hG2 3
            simp at hc0 hc1 hc2 hc3
            clear hG2
            by_cases ho : (9223372036854775807 - ((c.toNat : Int) - 48)) / 10 < N
            · have h := HH2.out
              rw [← hF.out, HD.out] at h
              simp only [numFold] at h
              rw [if_pos ho] at h
              simp only [Option.some.injEq, Prod.mk.injEq] at h
              clear hF HD HH2
              obtain ⟨rfl, rfl, rfl, rfl, rfl, rfl, rfl⟩ := h
              go_wp2
              exact number_end rfl (W := W2) (cs := #[.int .i64 0, .string ⟨#[]⟩, .int .i64 0, .int .i64 0]) HG2.out HI2.out (IsS122.lt HI.out) HB2.out (by simpa using HB.out.size) ((keep_alloc (KeepBut.refl w g none) _).trans HK2.out (.inl rfl)) rfl ⟨rfl, rfl, rfl⟩
            · have hF2 : Aside0 (numFold (s.data.toList.drop (m + 1)) (N * 10 + ((c.toNat : Int) - 48)) = numFold s.data.toList 0) := ⟨by rw [← hF.out, HD.out, numFold, if_neg ho]⟩
              clear hF HD HH2 hc0 hc1 hc2 hc3 hf0 hf1 hf2 hf3
              go_wp2
              go_round
              case rel => exact ⟨m + 1, N * 10 + ((c.toNat : Int) - 48), by omega, by go_num, rfl, by omega, by omega, hF2⟩
              case measure => simp [intOf]; omega
          · have h := HH2.out
            rw [← hF.out, List.drop_eq_nil_of_le (by rw [data_length]; omega)] at h
            simp only [numFold, Option.some.injEq, Prod.mk.injEq] at h
            clear hF HH2 HC
            obtain ⟨rfl, rfl, rfl, rfl, rfl, rfl, rfl⟩ := h
            have hG2 := HG2.out
            have hf0 := blk_frozen hG2 0
            have hf1 := blk_frozen hG2 1
            have hf2 := blk_frozen hG2 2
            have hf3 := blk_frozen hG2 3
            have hc0 := blk_cell hG2 0
            have hc1 := blk_cell hG2 1
            have hc2 := blk_cell hG2 2
            have hc3 := blk_cell hG2 3
            simp at hc0 hc1 hc2 hc3
            clear hG2
            go_wp2
            exact number_end rfl (W := W2) (cs := #[.int .i64 0, .string ⟨#[]⟩, .int .i64 0, .int .i64 0]) HG2.out HI2.out (IsS122.lt HI.out) HB2.out (by simpa using HB.out.size) ((keep_alloc (KeepBut.refl w g none) _).trans HK2.out (.inl rfl)) rfl ⟨rfl, rfl, rfl⟩
  · rw [if_neg hs] at h; cases h
theorem tok_reader_number.calls (k : Nat) (g : Nat) (s0_0 : ByteArray) (s0_1 : Int) (r1 : Int) (r2 : ByteArray) (r3 r4 r5 : Int) (r6 : ByteArray) (r7 : Int) (w0 w : World) (hI : IsS122 w0 w g s0_0 s0_1) (hB : Below w0.heap.size w0 w) (h : tok_reader_number.f k s0_0 s0_1 = some (r1, r2, r3, r4, r5, r6, r7)) :
    Calls Tryd.prog 105 #[.pointer (some ⟨g, 0, none⟩)] w fun e w' => e = .returned (.tuple #[.agg #[.int .i64 r1, .string r2, .int .i64 r3, .int .i64 r4], .int .i64 r5]) ∧ IsS122 w0 w' g r6 r7 ∧ Below w0.heap.size w0 w' ∧ KeepBut w w' g none := by
  unfold tok_reader_number.f at h
  obtain ⟨⟨s, t, i⟩, hw, h⟩ := Option.bind_eq_some_iff.1 h
  exact number_core k g s0_0 s0_1 s t i r1 r2 r3 r4 r5 r6 r7 w0 w hI hB hw h
end Go.Proofs.YtbngfhlciebeeaaDoor.L
end
