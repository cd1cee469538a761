/- Printed and hand-written steps towards the row (TreeEnds), those that it reaches. -/
import Derived.Test.YtbngfhlciebeeaaDoorTreeEndsG5
import Derived.Test.YtbngfhlciebeeaaDoorTreeEndsG6
section
namespace Go.Proofs.YtbngfhlciebeeaaDoor.L
open Go.RowKit Go.Proofs.YtbngfhlciebeeaaDoorW.PrintWords Go.Proofs.YtbngfhlciebeeaaDoorW.PrintLast Go.Proofs.YtbngfhlciebeeaaDoorW.PrintMore
attribute [local go_sem] max2_int min2_int max_two min_two max_three min_three max_four min_four   -- for this text's walks alone
set_option linter.unusedVariables false
set_option linter.unusedSimpArgs false
def tok_reader_while_blank.l0 : Nat → Int → ByteArray → Int → Option (ByteArray × ByteArray × Int)
 | 0, _, _, _ => none
 | k + 1, x5, x1000, x1001 => if x1001 < (x1000.size : Int) then (if 0 ≤ x1001 then ((tok_Lex_1.f (bt x1000 x1001)).bind fun t155 => (if t155 = true then (tok_reader_while_blank.l0 k x5 x1000 (wrap64 (x1001 + 1))) else (if 0 ≤ x5 then (if x5 ≤ x1001 then (if x1001 ≤ (x1000.size : Int) then (some (x1000.extract (x5 : Int).toNat (x1001 : Int).toNat, x1000, x1001)) else (none)) else (none)) else (none)))) else (none)) else (if 0 ≤ x5 then (if x5 ≤ x1001 then (if x1001 ≤ (x1000.size : Int) then (some (x1000.extract (x5 : Int).toNat (x1001 : Int).toNat, x1000, x1001)) else (none)) else (none)) else (none))
def tok_reader_while_blank.f (k : Nat) (s0_0 : ByteArray) (s0_1 : Int) : Option (ByteArray × ByteArray × Int) := tok_reader_while_blank.l0 k s0_1 s0_0 s0_1
set_option maxHeartbeats 8000000 in
set_option maxRecDepth 100000 in
theorem tok_reader_while_blank.calls (k : Nat) (g : Nat) (s0_0 : ByteArray) (s0_1 : Int) (r1 : ByteArray) (r2 : ByteArray) (r3 : Int) (w0 w : World) (hI : IsS122 w0 w g s0_0 s0_1) (hB : Below w0.heap.size w0 w) (h : tok_reader_while_blank.f k s0_0 s0_1 = some (r1, r2, r3)) :
  Calls Tryd.prog 67 #[.pointer (some ⟨g, 0, none⟩), .func (.func 68) #[] #[]] w fun e w' => e = .returned (.string r1) ∧ IsS122 w0 w' g r2 r3 ∧ Below w0.heap.size w0 w' ∧ KeepBut w w' g none := by
 have HI0 := Aside0.mk hI
 have HK := Aside0.mk (KeepBut.refl w g none)
 have HL := Aside0.mk hB.size
 clear hI
 have HW0 := Aside0.mk hB.size
 have HB := Aside0.mk hB
 clear hB
 have H : (tok_reader_while_blank.l0 k s0_1 s0_0 s0_1) = some (r1, r2, r3) := h
 clear h
 have H' := Aside0.mk H
 clear H
 obtain ⟨hcz2_0, hcz2_1, hfz2_0, hfz2_1⟩ := cellsI HI0.out
 go_enter Tryd.func67, Tryd.ntmps67
 go_wp2
 repeat (go_quiet (fail); try go_wp2)
 go_loopg [] k (fun kq w' => ∃ (x1001_1 : Int), Aside0 (tok_reader_while_blank.l0 kq s0_1 s0_0 x1001_1 = some (r1, r2, r3)) ∧ Aside0 (kq ≤ k) ∧ Aside0 (IsS122 w0 w' g s0_0 x1001_1) ∧ Aside0 (KeepBut w w' g none) ∧ Aside0 (Below w0.heap.size w0 w'))
 case atStart => exact ⟨(s0_1), H', ⟨Nat.le_refl _⟩, ⟨qI⟩, ⟨qH⟩, ⟨qB⟩⟩
 case round =>
  clear H'
  try clear p2
  try clear hcz2_0 hcz2_1 hfz2_0 hfz2_1
  obtain ⟨x1001_1, HA, HK1, HI0, HK, HB⟩ := hrel
  cases gk with
  | zero => exact absurd HA.out (by simp [tok_reader_while_blank.l0])
  | succ k1 =>
   have H := HA.out
   clear HA
   simp only [tok_reader_while_blank.l0] at H
   replace H := iD H
   rcases H with ⟨c3b0, H⟩ | ⟨c3b0, H⟩
   ·by_cases c4 : 0 ≤ x1001_1
    ·rw [if_pos c4] at H
     have c4b0 := decide_eq_true c4
     clear c4
     replace H := Option.bind_eq_some_iff.mp H
     obtain ⟨t155, A60, H⟩ := H
     (try dsimp -simprocs only at H)
     have A6 := Aside0.mk A60
     clear A60
     by_cases c7 : t155 = true
     ·subst c7
      rw [if_pos rfl] at H
      have H' := Aside0.mk H
      clear H
      obtain ⟨hcz8_0, hcz8_1, hfz8_0, hfz8_1⟩ := cellsI HI0.out
      have p5 : 0 ≤ (x1001_1 : Int) := qD
      have q5 : x1001_1 < (s0_0.size : Int) := qD
      have hx5 := bt_at s0_0 x1001_1
      replace p5 := eq_true p5
      replace q5 := eq_true q5
      go_wp2_with (first | (go_at_call 68; (with_reducible refine (tok_Lex_1.calls (bt s0_0 x1001_1) true _ A6.out).mono ?_); rintro e w' ⟨rfl, ⟨nd, rfl⟩⟩; (try exact qW)))
      repeat (go_quiet (first | (go_at_call 68; (with_reducible refine (tok_Lex_1.calls (bt s0_0 x1001_1) true _ A6.out).mono ?_); rintro e w' ⟨rfl, ⟨nd, rfl⟩⟩; (try exact qW))); try go_wp2_with (first | (go_at_call 68; (with_reducible refine (tok_Lex_1.calls (bt s0_0 x1001_1) true _ A6.out).mono ?_); rintro e w' ⟨rfl, ⟨nd, rfl⟩⟩; (try exact qW))))
      go_roundg k1
      case measure => have := HK1.out; omega
      case rel => exact ⟨(wrap64 (x1001_1 + 1)), H', ⟨by have := HK1.out; omega⟩, ⟨qI⟩, ⟨qH⟩, ⟨qB⟩⟩
     ·replace c7 := Bool.eq_false_iff.mpr c7
      subst c7
      rw [if_neg (show ¬ (false = true) by decide)] at H
      by_cases c9 : 0 ≤ s0_1
      ·rw [if_pos c9] at H
       have c9b0 := eq_true c9
       have c9b1 := decide_eq_true c9
       clear c9
       by_cases c10 : s0_1 ≤ x1001_1
       ·rw [if_pos c10] at H
        have c10b0 := eq_true c10
        have c10b1 := decide_eq_true c10
        clear c10
        by_cases c11 : x1001_1 ≤ (s0_0.size : Int)
        ·rw [if_pos c11] at H
         have c11b0 := eq_true c11
         have c11b1 := decide_eq_true c11
         clear c11
         simp only [Option.some.injEq, Prod.mk.injEq] at H
         obtain ⟨rfl, rfl, rfl⟩ := H
         obtain ⟨hcz12_0, hcz12_1, hfz12_0, hfz12_1⟩ := cellsI HI0.out
         have p5 : 0 ≤ (x1001_1 : Int) := qD
         have q5 : x1001_1 < (s0_0.size : Int) := qD
         have hx5 := bt_at s0_0 x1001_1
         replace p5 := eq_true p5
         replace q5 := eq_true q5
         go_wp2_with (first | (go_at_call 68; (with_reducible refine (tok_Lex_1.calls (bt s0_0 x1001_1) false _ A6.out).mono ?_); rintro e w' ⟨rfl, ⟨nd, rfl⟩⟩; (try exact qW)))
         repeat (go_quiet (first | (go_at_call 68; (with_reducible refine (tok_Lex_1.calls (bt s0_0 x1001_1) false _ A6.out).mono ?_); rintro e w' ⟨rfl, ⟨nd, rfl⟩⟩; (try exact qW))); try go_wp2_with (first | (go_at_call 68; (with_reducible refine (tok_Lex_1.calls (bt s0_0 x1001_1) false _ A6.out).mono ?_); rintro e w' ⟨rfl, ⟨nd, rfl⟩⟩; (try exact qW))))
         go_ret
         exact ⟨qR, qI, qB, qH⟩
        ·rw [if_neg c11] at H
         exact absurd H (by simp)
       ·rw [if_neg c10] at H
        exact absurd H (by simp)
      ·rw [if_neg c9] at H
       exact absurd H (by simp)
    ·rw [if_neg c4] at H
     exact absurd H (by simp)
   ·by_cases c13 : 0 ≤ s0_1
    ·rw [if_pos c13] at H
     have c13b0 := eq_true c13
     have c13b1 := decide_eq_true c13
     clear c13
     by_cases c14 : s0_1 ≤ x1001_1
     ·rw [if_pos c14] at H
      have c14b0 := eq_true c14
      have c14b1 := decide_eq_true c14
      clear c14
      by_cases c15 : x1001_1 ≤ (s0_0.size : Int)
      ·rw [if_pos c15] at H
       have c15b0 := eq_true c15
       have c15b1 := decide_eq_true c15
       clear c15
       simp only [Option.some.injEq, Prod.mk.injEq] at H
       obtain ⟨rfl, rfl, rfl⟩ := H
       obtain ⟨hcz16_0, hcz16_1, hfz16_0, hfz16_1⟩ := cellsI HI0.out
       go_wp2
       repeat (go_quiet (fail); try go_wp2)
       go_ret
       exact ⟨qR, qI, qB, qH⟩
      ·rw [if_neg c15] at H
       exact absurd H (by simp)
     ·rw [if_neg c14] at H
      exact absurd H (by simp)
    ·rw [if_neg c13] at H
     exact absurd H (by simp)
end Go.Proofs.YtbngfhlciebeeaaDoor.L
end
section
namespace Go.Proofs.YtbngfhlciebeeaaDoor.L
open Go.RowKit Go.Proofs.YtbngfhlciebeeaaDoorW.PrintWords Go.Proofs.YtbngfhlciebeeaaDoorW.PrintLast Go.Proofs.YtbngfhlciebeeaaDoorW.PrintMore
attribute [local go_sem] max2_int min2_int max_two min_two max_three min_three max_four min_four   -- for this text's walks alone
set_option linter.unusedVariables false
set_option linter.unusedSimpArgs false
def tok_small.f (a0 : Int) : Option (Bool) := if a0 ≥ 97 then (some (decide (a0 ≤ 122))) else (some false)
set_option maxHeartbeats 8000000 in
set_option maxRecDepth 100000 in
theorem tok_small.calls (a0 : Int) (r : Bool) (w : World) (h : tok_small.f a0 = some r) :
  Calls Tryd.prog 102 #[.int .u8 a0] w fun e w' => e = .returned (.bool r) ∧ Drawn0 w w' := by
 have H : (if a0 ≥ 97 then (some (decide (a0 ≤ 122))) else (some false)) = some r := h
 clear h
 replace H := iD H
 rcases H with ⟨c2b0, H⟩ | ⟨c2b0, H⟩
 ·obtain rfl := Option.some.inj H
  go_enter Tryd.func102, Tryd.ntmps102
  go_wp2
  go_ret
  exact ⟨by first | rfl | (simp; done) | (simp [*]; done), by repeat (first | exact Drawn0.refl _ | apply Drawn0.step)⟩
 ·obtain rfl := Option.some.inj H
  go_enter Tryd.func102, Tryd.ntmps102
  go_wp2
  go_ret
  exact ⟨by first | rfl | (simp; done) | (simp [*]; done), by repeat (first | exact Drawn0.refl _ | apply Drawn0.step)⟩
end Go.Proofs.YtbngfhlciebeeaaDoor.L
end
section
namespace Go.Proofs.YtbngfhlciebeeaaDoor.L
open Go.RowKit Go.Proofs.YtbngfhlciebeeaaDoorW.PrintWords Go.Proofs.YtbngfhlciebeeaaDoorW.PrintLast Go.Proofs.YtbngfhlciebeeaaDoorW.PrintMore
attribute [local go_sem] max2_int min2_int max_two min_two max_three min_three max_four min_four   -- for this text's walks alone
set_option linter.unusedVariables false
set_option linter.unusedSimpArgs false
def tok_digit.f (a0 : Int) : Option (Bool) := if a0 ≥ 48 then (some (decide (a0 ≤ 57))) else (some false)
set_option maxHeartbeats 8000000 in
set_option maxRecDepth 100000 in
theorem tok_digit.calls (a0 : Int) (r : Bool) (w : World) (h : tok_digit.f a0 = some r) :
  Calls Tryd.prog 104 #[.int .u8 a0] w fun e w' => e = .returned (.bool r) ∧ Drawn0 w w' := by
 have H : (if a0 ≥ 48 then (some (decide (a0 ≤ 57))) else (some false)) = some r := h
 clear h
 replace H := iD H
 rcases H with ⟨c2b0, H⟩ | ⟨c2b0, H⟩
 ·obtain rfl := Option.some.inj H
  go_enter Tryd.func104, Tryd.ntmps104
  go_wp2
  go_ret
  exact ⟨by first | rfl | (simp; done) | (simp [*]; done), by repeat (first | exact Drawn0.refl _ | apply Drawn0.step)⟩
 ·obtain rfl := Option.some.inj H
  go_enter Tryd.func104, Tryd.ntmps104
  go_wp2
  go_ret
  exact ⟨by first | rfl | (simp; done) | (simp [*]; done), by repeat (first | exact Drawn0.refl _ | apply Drawn0.step)⟩
end Go.Proofs.YtbngfhlciebeeaaDoor.L
end
section
namespace Go.Proofs.YtbngfhlciebeeaaDoor.L
open Go.RowKit Go.Proofs.YtbngfhlciebeeaaDoorW.PrintWords Go.Proofs.YtbngfhlciebeeaaDoorW.PrintLast Go.Proofs.YtbngfhlciebeeaaDoorW.PrintMore
attribute [local go_sem] max2_int min2_int max_two min_two max_three min_three max_four min_four   -- for this text's walks alone
set_option linter.unusedVariables false
set_option linter.unusedSimpArgs false
def tok_reader_word_1.f (a0 : Int) : Option (Bool) := (tok_small.f a0).bind fun t101 => (if t101 = true then (some true) else ((tok_digit.f a0).bind fun t102 => (if t102 = true then (some true) else (some (a0 == 95)))))
set_option maxHeartbeats 8000000 in
set_option maxRecDepth 100000 in
theorem tok_reader_word_1.calls (a0 : Int) (r : Bool) (w : World) (h : tok_reader_word_1.f a0 = some r) :
  Calls Tryd.prog 152 #[.int .u8 a0] w fun e w' => e = .returned (.bool r) ∧ Drawn0 w w' := by
 have H : ((tok_small.f a0).bind fun t101 => (if t101 = true then (some true) else ((tok_digit.f a0).bind fun t102 => (if t102 = true then (some true) else (some (a0 == 95)))))) = some r := h
 clear h
 replace H := Option.bind_eq_some_iff.mp H
 obtain ⟨t101, A20, H⟩ := H
 (try dsimp -simprocs only at H)
 have A2 := Aside0.mk A20
 clear A20
 by_cases c3 : t101 = true
 ·subst c3
  rw [if_pos rfl] at H
  obtain rfl := Option.some.inj H
  go_enter Tryd.func152, Tryd.ntmps152
  go_wp2_with (first | ((with_reducible refine gc 102 rfl ?_); refine gl (some 4) #[.int .u8 a0] Tryd.func102 ?_; (with_reducible refine (tok_small.calls a0 true _ A2.out).mono ?_); rintro e w' ⟨rfl, ⟨nd, rfl⟩⟩; refine ⟨_, rfl, ?_⟩))
  go_ret
  exact ⟨by first | rfl | (simp; done) | (simp [*]; done), by repeat (first | exact Drawn0.refl _ | apply Drawn0.step)⟩
 ·replace c3 := Bool.eq_false_iff.mpr c3
  subst c3
  rw [if_neg (show ¬ (false = true) by decide)] at H
  replace H := Option.bind_eq_some_iff.mp H
  obtain ⟨t102, A40, H⟩ := H
  (try dsimp -simprocs only at H)
  have A4 := Aside0.mk A40
  clear A40
  by_cases c5 : t102 = true
  ·subst c5
   rw [if_pos rfl] at H
   obtain rfl := Option.some.inj H
   go_enter Tryd.func152, Tryd.ntmps152
   go_wp2_with (first | ((with_reducible refine gc 102 rfl ?_); refine gl (some 4) #[.int .u8 a0] Tryd.func102 ?_; (with_reducible refine (tok_small.calls a0 false _ A2.out).mono ?_); rintro e w' ⟨rfl, ⟨nd, rfl⟩⟩; refine ⟨_, rfl, ?_⟩) | (go_at_call 104; (with_reducible refine (tok_digit.calls a0 true _ A4.out).mono ?_); rintro e w' ⟨rfl, ⟨nd, rfl⟩⟩))
   go_ret
   exact ⟨by first | rfl | (simp; done) | (simp [*]; done), by repeat (first | exact Drawn0.refl _ | apply Drawn0.step)⟩
  ·replace c5 := Bool.eq_false_iff.mpr c5
   subst c5
   rw [if_neg (show ¬ (false = true) by decide)] at H
   obtain rfl := Option.some.inj H
   go_enter Tryd.func152, Tryd.ntmps152
   go_wp2_with (first | ((with_reducible refine gc 102 rfl ?_); refine gl (some 4) #[.int .u8 a0] Tryd.func102 ?_; (with_reducible refine (tok_small.calls a0 false _ A2.out).mono ?_); rintro e w' ⟨rfl, ⟨nd, rfl⟩⟩; refine ⟨_, rfl, ?_⟩) | (go_at_call 104; (with_reducible refine (tok_digit.calls a0 false _ A4.out).mono ?_); rintro e w' ⟨rfl, ⟨nd, rfl⟩⟩))
   go_ret
   exact ⟨by first | rfl | (simp; done) | (simp [*]; done), by repeat (first | exact Drawn0.refl _ | apply Drawn0.step)⟩
end Go.Proofs.YtbngfhlciebeeaaDoor.L
end
section
namespace Go.Proofs.YtbngfhlciebeeaaDoor.L
open Go.RowKit Go.Proofs.YtbngfhlciebeeaaDoorW.PrintWords Go.Proofs.YtbngfhlciebeeaaDoorW.PrintLast Go.Proofs.YtbngfhlciebeeaaDoorW.PrintMore
attribute [local go_sem] max2_int min2_int max_two min_two max_three min_three max_four min_four   -- for this text's walks alone
set_option linter.unusedVariables false
set_option linter.unusedSimpArgs false
def tok_reader_while_word.l0 : Nat → Int → ByteArray → Int → Option (ByteArray × ByteArray × Int)
 | 0, _, _, _ => none
 | k + 1, x5, x1000, x1001 => if x1001 < (x1000.size : Int) then (if 0 ≤ x1001 then ((tok_reader_word_1.f (bt x1000 x1001)).bind fun t103 => (if t103 = true then (tok_reader_while_word.l0 k x5 x1000 (wrap64 (x1001 + 1))) else (if 0 ≤ x5 then (if x5 ≤ x1001 then (if x1001 ≤ (x1000.size : Int) then (some (x1000.extract (x5 : Int).toNat (x1001 : Int).toNat, x1000, x1001)) else (none)) else (none)) else (none)))) else (none)) else (if 0 ≤ x5 then (if x5 ≤ x1001 then (if x1001 ≤ (x1000.size : Int) then (some (x1000.extract (x5 : Int).toNat (x1001 : Int).toNat, x1000, x1001)) else (none)) else (none)) else (none))
def tok_reader_while_word.f (k : Nat) (s0_0 : ByteArray) (s0_1 : Int) : Option (ByteArray × ByteArray × Int) := tok_reader_while_word.l0 k s0_1 s0_0 s0_1
set_option maxHeartbeats 8000000 in
set_option maxRecDepth 100000 in
theorem tok_reader_while_word.calls (k : Nat) (g : Nat) (s0_0 : ByteArray) (s0_1 : Int) (r1 : ByteArray) (r2 : ByteArray) (r3 : Int) (w0 w : World) (hI : IsS122 w0 w g s0_0 s0_1) (hB : Below w0.heap.size w0 w) (h : tok_reader_while_word.f k s0_0 s0_1 = some (r1, r2, r3)) :
  Calls Tryd.prog 67 #[.pointer (some ⟨g, 0, none⟩), .func (.func 152) #[] #[]] w fun e w' => e = .returned (.string r1) ∧ IsS122 w0 w' g r2 r3 ∧ Below w0.heap.size w0 w' ∧ KeepBut w w' g none := by
 have HI0 := Aside0.mk hI
 have HK := Aside0.mk (KeepBut.refl w g none)
 have HL := Aside0.mk hB.size
 clear hI
 have HW0 := Aside0.mk hB.size
 have HB := Aside0.mk hB
 clear hB
 have H : (tok_reader_while_word.l0 k s0_1 s0_0 s0_1) = some (r1, r2, r3) := h
 clear h
 have H' := Aside0.mk H
 clear H
 obtain ⟨hcz2_0, hcz2_1, hfz2_0, hfz2_1⟩ := cellsI HI0.out
 go_enter Tryd.func67, Tryd.ntmps67
 go_wp2
 repeat (go_quiet (fail); try go_wp2)
 go_loopg [] k (fun kq w' => ∃ (x1001_1 : Int), Aside0 (tok_reader_while_word.l0 kq s0_1 s0_0 x1001_1 = some (r1, r2, r3)) ∧ Aside0 (kq ≤ k) ∧ Aside0 (IsS122 w0 w' g s0_0 x1001_1) ∧ Aside0 (KeepBut w w' g none) ∧ Aside0 (Below w0.heap.size w0 w'))
 case atStart => exact ⟨(s0_1), H', ⟨Nat.le_refl _⟩, ⟨qI⟩, ⟨qH⟩, ⟨qB⟩⟩
 case round =>
  clear H'
  try clear p2
  try clear hcz2_0 hcz2_1 hfz2_0 hfz2_1
  obtain ⟨x1001_1, HA, HK1, HI0, HK, HB⟩ := hrel
  cases gk with
  | zero => exact absurd HA.out (by simp [tok_reader_while_word.l0])
  | succ k1 =>
   have H := HA.out
   clear HA
   simp only [tok_reader_while_word.l0] at H
   replace H := iD H
   rcases H with ⟨c3b0, H⟩ | ⟨c3b0, H⟩
   ·by_cases c4 : 0 ≤ x1001_1
    ·rw [if_pos c4] at H
     have c4b0 := decide_eq_true c4
     clear c4
     replace H := Option.bind_eq_some_iff.mp H
     obtain ⟨t103, A60, H⟩ := H
     (try dsimp -simprocs only at H)
     have A6 := Aside0.mk A60
     clear A60
     by_cases c7 : t103 = true
     ·subst c7
      rw [if_pos rfl] at H
      have H' := Aside0.mk H
      clear H
      obtain ⟨hcz8_0, hcz8_1, hfz8_0, hfz8_1⟩ := cellsI HI0.out
      have p5 : 0 ≤ (x1001_1 : Int) := qD
      have q5 : x1001_1 < (s0_0.size : Int) := qD
      have hx5 := bt_at s0_0 x1001_1
      replace p5 := eq_true p5
      replace q5 := eq_true q5
      go_wp2_with (first | (go_at_call 152; (with_reducible refine (tok_reader_word_1.calls (bt s0_0 x1001_1) true _ A6.out).mono ?_); rintro e w' ⟨rfl, ⟨nd, rfl⟩⟩; (try exact qW)))
      repeat (go_quiet (first | (go_at_call 152; (with_reducible refine (tok_reader_word_1.calls (bt s0_0 x1001_1) true _ A6.out).mono ?_); rintro e w' ⟨rfl, ⟨nd, rfl⟩⟩; (try exact qW))); try go_wp2_with (first | (go_at_call 152; (with_reducible refine (tok_reader_word_1.calls (bt s0_0 x1001_1) true _ A6.out).mono ?_); rintro e w' ⟨rfl, ⟨nd, rfl⟩⟩; (try exact qW))))
      go_roundg k1
      case measure => have := HK1.out; omega
      case rel => exact ⟨(wrap64 (x1001_1 + 1)), H', ⟨by have := HK1.out; omega⟩, ⟨qI⟩, ⟨qH⟩, ⟨qB⟩⟩
     ·replace c7 := Bool.eq_false_iff.mpr c7
      subst c7
      rw [if_neg (show ¬ (false = true) by decide)] at H
      by_cases c9 : 0 ≤ s0_1
      ·rw [if_pos c9] at H
       have c9b0 := eq_true c9
       have c9b1 := decide_eq_true c9
       clear c9
       by_cases c10 : s0_1 ≤ x1001_1
       ·rw [if_pos c10] at H
        have c10b0 := eq_true c10
        have c10b1 := decide_eq_true c10
        clear c10
        by_cases c11 : x1001_1 ≤ (s0_0.size : Int)
        ·rw [if_pos c11] at H
         have c11b0 := eq_true c11
         have c11b1 := decide_eq_true c11
         clear c11
         simp only [Option.some.injEq, Prod.mk.injEq] at H
         obtain ⟨rfl, rfl, rfl⟩ := H
         obtain ⟨hcz12_0, hcz12_1, hfz12_0, hfz12_1⟩ := cellsI HI0.out
         have p5 : 0 ≤ (x1001_1 : Int) := qD
         have q5 : x1001_1 < (s0_0.size : Int) := qD
         have hx5 := bt_at s0_0 x1001_1
         replace p5 := eq_true p5
         replace q5 := eq_true q5
         go_wp2_with (first | (go_at_call 152; (with_reducible refine (tok_reader_word_1.calls (bt s0_0 x1001_1) false _ A6.out).mono ?_); rintro e w' ⟨rfl, ⟨nd, rfl⟩⟩; (try exact qW)))
         repeat (go_quiet (first | (go_at_call 152; (with_reducible refine (tok_reader_word_1.calls (bt s0_0 x1001_1) false _ A6.out).mono ?_); rintro e w' ⟨rfl, ⟨nd, rfl⟩⟩; (try exact qW))); try go_wp2_with (first | (go_at_call 152; (with_reducible refine (tok_reader_word_1.calls (bt s0_0 x1001_1) false _ A6.out).mono ?_); rintro e w' ⟨rfl, ⟨nd, rfl⟩⟩; (try exact qW))))
         go_ret
         exact ⟨qR, qI, qB, qH⟩
        ·rw [if_neg c11] at H
         exact absurd H (by simp)
       ·rw [if_neg c10] at H
        exact absurd H (by simp)
      ·rw [if_neg c9] at H
       exact absurd H (by simp)
    ·rw [if_neg c4] at H
     exact absurd H (by simp)
   ·by_cases c13 : 0 ≤ s0_1
    ·rw [if_pos c13] at H
     have c13b0 := eq_true c13
     have c13b1 := decide_eq_true c13
     clear c13
     by_cases c14 : s0_1 ≤ x1001_1
     ·rw [if_pos c14] at H
      have c14b0 := eq_true c14
      have c14b1 := decide_eq_true c14
      clear c14
      by_cases c15 : x1001_1 ≤ (s0_0.size : Int)
      ·rw [if_pos c15] at H
       have c15b0 := eq_true c15
       have c15b1 := decide_eq_true c15
       clear c15
       simp only [Option.some.injEq, Prod.mk.injEq] at H
       obtain ⟨rfl, rfl, rfl⟩ := H
       obtain ⟨hcz16_0, hcz16_1, hfz16_0, hfz16_1⟩ := cellsI HI0.out
       go_wp2
       repeat (go_quiet (fail); try go_wp2)
       go_ret
       exact ⟨qR, qI, qB, qH⟩
      ·rw [if_neg c15] at H
       exact absurd H (by simp)
     ·rw [if_neg c14] at H
      exact absurd H (by simp)
    ·rw [if_neg c13] at H
     exact absurd H (by simp)
end Go.Proofs.YtbngfhlciebeeaaDoor.L
end
section
namespace Go.Proofs.YtbngfhlciebeeaaDoor.L
open Go.RowKit Go.Proofs.YtbngfhlciebeeaaDoorW.PrintWords Go.Proofs.YtbngfhlciebeeaaDoorW.PrintLast Go.Proofs.YtbngfhlciebeeaaDoorW.PrintMore
attribute [local go_sem] max2_int min2_int max_two min_two max_three min_three max_four min_four   -- for this text's walks alone
set_option linter.unusedVariables false
set_option linter.unusedSimpArgs false
def tok_reader_while_digit.l0 : Nat → Int → ByteArray → Int → Option (ByteArray × ByteArray × Int)
 | 0, _, _, _ => none
 | k + 1, x5, x1000, x1001 => if x1001 < (x1000.size : Int) then (if 0 ≤ x1001 then ((tok_digit.f (bt x1000 x1001)).bind fun t116 => (if t116 = true then (tok_reader_while_digit.l0 k x5 x1000 (wrap64 (x1001 + 1))) else (if 0 ≤ x5 then (if x5 ≤ x1001 then (if x1001 ≤ (x1000.size : Int) then (some (x1000.extract (x5 : Int).toNat (x1001 : Int).toNat, x1000, x1001)) else (none)) else (none)) else (none)))) else (none)) else (if 0 ≤ x5 then (if x5 ≤ x1001 then (if x1001 ≤ (x1000.size : Int) then (some (x1000.extract (x5 : Int).toNat (x1001 : Int).toNat, x1000, x1001)) else (none)) else (none)) else (none))
def tok_reader_while_digit.f (k : Nat) (s0_0 : ByteArray) (s0_1 : Int) : Option (ByteArray × ByteArray × Int) := tok_reader_while_digit.l0 k s0_1 s0_0 s0_1
set_option maxHeartbeats 8000000 in
set_option maxRecDepth 100000 in
theorem tok_reader_while_digit.calls (k : Nat) (g : Nat) (s0_0 : ByteArray) (s0_1 : Int) (r1 : ByteArray) (r2 : ByteArray) (r3 : Int) (w0 w : World) (hI : IsS122 w0 w g s0_0 s0_1) (hB : Below w0.heap.size w0 w) (h : tok_reader_while_digit.f k s0_0 s0_1 = some (r1, r2, r3)) :
  Calls Tryd.prog 67 #[.pointer (some ⟨g, 0, none⟩), .func (.func 104) #[] #[]] w fun e w' => e = .returned (.string r1) ∧ IsS122 w0 w' g r2 r3 ∧ Below w0.heap.size w0 w' ∧ KeepBut w w' g none := by
 have HI0 := Aside0.mk hI
 have HK := Aside0.mk (KeepBut.refl w g none)
 have HL := Aside0.mk hB.size
 clear hI
 have HW0 := Aside0.mk hB.size
 have HB := Aside0.mk hB
 clear hB
 have H : (tok_reader_while_digit.l0 k s0_1 s0_0 s0_1) = some (r1, r2, r3) := h
 clear h
 have H' := Aside0.mk H
 clear H
 obtain ⟨hcz2_0, hcz2_1, hfz2_0, hfz2_1⟩ := cellsI HI0.out
 go_enter Tryd.func67, Tryd.ntmps67
 go_wp2
 repeat (go_quiet (fail); try go_wp2)
 go_loopg [] k (fun kq w' => ∃ (x1001_1 : Int), Aside0 (tok_reader_while_digit.l0 kq s0_1 s0_0 x1001_1 = some (r1, r2, r3)) ∧ Aside0 (kq ≤ k) ∧ Aside0 (IsS122 w0 w' g s0_0 x1001_1) ∧ Aside0 (KeepBut w w' g none) ∧ Aside0 (Below w0.heap.size w0 w'))
 case atStart => exact ⟨(s0_1), H', ⟨Nat.le_refl _⟩, ⟨qI⟩, ⟨qH⟩, ⟨qB⟩⟩
 case round =>
  clear H'
  try clear p2
  try clear hcz2_0 hcz2_1 hfz2_0 hfz2_1
  obtain ⟨x1001_1, HA, HK1, HI0, HK, HB⟩ := hrel
  cases gk with
  | zero => exact absurd HA.out (by simp [tok_reader_while_digit.l0])
  | succ k1 =>
   have H := HA.out
   clear HA
   simp only [tok_reader_while_digit.l0] at H
   replace H := iD H
   rcases H with ⟨c3b0, H⟩ | ⟨c3b0, H⟩
   ·by_cases c4 : 0 ≤ x1001_1
    ·rw [if_pos c4] at H
     have c4b0 := decide_eq_true c4
     clear c4
     replace H := Option.bind_eq_some_iff.mp H
     obtain ⟨t116, A60, H⟩ := H
     (try dsimp -simprocs only at H)
     have A6 := Aside0.mk A60
     clear A60
     by_cases c7 : t116 = true
     ·subst c7
      rw [if_pos rfl] at H
      have H' := Aside0.mk H
      clear H
      obtain ⟨hcz8_0, hcz8_1, hfz8_0, hfz8_1⟩ := cellsI HI0.out
      have p5 : 0 ≤ (x1001_1 : Int) := qD
      have q5 : x1001_1 < (s0_0.size : Int) := qD
      have hx5 := bt_at s0_0 x1001_1
      replace p5 := eq_true p5
      replace q5 := eq_true q5
      go_wp2_with (first | (go_at_call 104; (with_reducible refine (tok_digit.calls (bt s0_0 x1001_1) true _ A6.out).mono ?_); rintro e w' ⟨rfl, ⟨nd, rfl⟩⟩; (try exact qW)))
      repeat (go_quiet (first | (go_at_call 104; (with_reducible refine (tok_digit.calls (bt s0_0 x1001_1) true _ A6.out).mono ?_); rintro e w' ⟨rfl, ⟨nd, rfl⟩⟩; (try exact qW))); try go_wp2_with (first | (go_at_call 104; (with_reducible refine (tok_digit.calls (bt s0_0 x1001_1) true _ A6.out).mono ?_); rintro e w' ⟨rfl, ⟨nd, rfl⟩⟩; (try exact qW))))
      go_roundg k1
      case measure => have := HK1.out; omega
      case rel => exact ⟨(wrap64 (x1001_1 + 1)), H', ⟨by have := HK1.out; omega⟩, ⟨qI⟩, ⟨qH⟩, ⟨qB⟩⟩
     ·replace c7 := Bool.eq_false_iff.mpr c7
      subst c7
      rw [if_neg (show ¬ (false = true) by decide)] at H
      by_cases c9 : 0 ≤ s0_1
      ·rw [if_pos c9] at H
       have c9b0 := eq_true c9
       have c9b1 := decide_eq_true c9
       clear c9
       by_cases c10 : s0_1 ≤ x1001_1
       ·rw [if_pos c10] at H
        have c10b0 := eq_true c10
        have c10b1 := decide_eq_true c10
        clear c10
        by_cases c11 : x1001_1 ≤ (s0_0.size : Int)
        ·rw [if_pos c11] at H
         have c11b0 := eq_true c11
         have c11b1 := decide_eq_true c11
         clear c11
         simp only [Option.some.injEq, Prod.mk.injEq] at H
         obtain ⟨rfl, rfl, rfl⟩ := H
         obtain ⟨hcz12_0, hcz12_1, hfz12_0, hfz12_1⟩ := cellsI HI0.out
         have p5 : 0 ≤ (x1001_1 : Int) := qD
         have q5 : x1001_1 < (s0_0.size : Int) := qD
         have hx5 := bt_at s0_0 x1001_1
         replace p5 := eq_true p5
         replace q5 := eq_true q5
         go_wp2_with (first | (go_at_call 104; (with_reducible refine (tok_digit.calls (bt s0_0 x1001_1) false _ A6.out).mono ?_); rintro e w' ⟨rfl, ⟨nd, rfl⟩⟩; (try exact qW)))
         repeat (go_quiet (first | (go_at_call 104; (with_reducible refine (tok_digit.calls (bt s0_0 x1001_1) false _ A6.out).mono ?_); rintro e w' ⟨rfl, ⟨nd, rfl⟩⟩; (try exact qW))); try go_wp2_with (first | (go_at_call 104; (with_reducible refine (tok_digit.calls (bt s0_0 x1001_1) false _ A6.out).mono ?_); rintro e w' ⟨rfl, ⟨nd, rfl⟩⟩; (try exact qW))))
         go_ret
         exact ⟨qR, qI, qB, qH⟩
        ·rw [if_neg c11] at H
         exact absurd H (by simp)
       ·rw [if_neg c10] at H
        exact absurd H (by simp)
      ·rw [if_neg c9] at H
       exact absurd H (by simp)
    ·rw [if_neg c4] at H
     exact absurd H (by simp)
   ·by_cases c13 : 0 ≤ s0_1
    ·rw [if_pos c13] at H
     have c13b0 := eq_true c13
     have c13b1 := decide_eq_true c13
     clear c13
     by_cases c14 : s0_1 ≤ x1001_1
     ·rw [if_pos c14] at H
      have c14b0 := eq_true c14
      have c14b1 := decide_eq_true c14
      clear c14
      by_cases c15 : x1001_1 ≤ (s0_0.size : Int)
      ·rw [if_pos c15] at H
       have c15b0 := eq_true c15
       have c15b1 := decide_eq_true c15
       clear c15
       simp only [Option.some.injEq, Prod.mk.injEq] at H
       obtain ⟨rfl, rfl, rfl⟩ := H
       obtain ⟨hcz16_0, hcz16_1, hfz16_0, hfz16_1⟩ := cellsI HI0.out
       go_wp2
       repeat (go_quiet (fail); try go_wp2)
       go_ret
       exact ⟨qR, qI, qB, qH⟩
      ·rw [if_neg c15] at H
       exact absurd H (by simp)
     ·rw [if_neg c14] at H
      exact absurd H (by simp)
    ·rw [if_neg c13] at H
     exact absurd H (by simp)
end Go.Proofs.YtbngfhlciebeeaaDoor.L
end
section
namespace Go.Proofs.YtbngfhlciebeeaaDoor.L
open Go.RowKit Go.Proofs.YtbngfhlciebeeaaDoorW.PrintWords Go.Proofs.YtbngfhlciebeeaaDoorW.PrintLast Go.Proofs.YtbngfhlciebeeaaDoorW.PrintMore
attribute [local go_sem] max2_int min2_int max_two min_two max_three min_three max_four min_four   -- for this text's walks alone
set_option linter.unusedVariables false
set_option linter.unusedSimpArgs false
def tok_reader_quote_1.f (a0 : Int) : Option (Bool) := some (a0 != 39)
set_option maxHeartbeats 8000000 in
set_option maxRecDepth 100000 in
theorem tok_reader_quote_1.calls (a0 : Int) (r : Bool) (w : World) (h : tok_reader_quote_1.f a0 = some r) :
  Calls Tryd.prog 133 #[.int .u8 a0] w fun e w' => e = .returned (.bool r) ∧ Drawn0 w w' := by
 have H : (some (a0 != 39)) = some r := h
 clear h
 obtain rfl := Option.some.inj H
 go_enter Tryd.func133, Tryd.ntmps133
 go_wp2
 go_ret
 exact ⟨by first | rfl | (simp; done) | (simp [*]; done), by repeat (first | exact Drawn0.refl _ | apply Drawn0.step)⟩
end Go.Proofs.YtbngfhlciebeeaaDoor.L
end
