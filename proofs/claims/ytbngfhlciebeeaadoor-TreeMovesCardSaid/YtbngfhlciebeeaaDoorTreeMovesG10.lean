/- Printed and hand-written steps towards the row (TreeMoves), those that it reaches. -/
import Derived.Test.YtbngfhlciebeeaaDoorTreeMovesG4
import Derived.Test.YtbngfhlciebeeaaDoorTreeMovesG9
section
namespace Go.Proofs.YtbngfhlciebeeaaDoor.L
open Go.RowKit Go.Proofs.YtbngfhlciebeeaaDoorW.PrintWords Go.Proofs.YtbngfhlciebeeaaDoorW.PrintLast Go.Proofs.YtbngfhlciebeeaaDoorW.PrintMore
attribute [local go_sem] max2_int min2_int max_two min_two max_three min_three max_four min_four   -- for this text's walks alone
set_option linter.unusedVariables false
set_option linter.unusedSimpArgs false
attribute [local go_sem high] eqA32
def whirligigref02_letter.f (a0 : Int) : Option (Bool) := if a0 ≥ 97 then (some (decide (a0 ≤ 122))) else (some false)
set_option maxHeartbeats 8000000 in
set_option maxRecDepth 100000 in
theorem whirligigref02_letter.calls (a0 : Int) (r : Bool) (w : World) (h : whirligigref02_letter.f a0 = some r) :
  Calls Tryd.prog 108 #[.int .u8 a0] w fun e w' => e = .returned (.bool r) ∧ Drawn0 w w' := by
 have H : (if a0 ≥ 97 then (some (decide (a0 ≤ 122))) else (some false)) = some r := h
 clear h
 by_cases c2 : a0 ≥ 97
 ·rw [if_pos c2] at H
  have c2b0 := decide_eq_true c2
  clear c2
  obtain rfl := Option.some.inj H
  go_enter Tryd.func108, Tryd.ntmps108
  go_wp2
  go_ret
  exact ⟨by first | rfl | (simp; done) | (simp [*]; done), by repeat (first | exact Drawn0.refl _ | apply Drawn0.step)⟩
 ·rw [if_neg c2] at H
  have c2b0 := decide_eq_false c2
  clear c2
  obtain rfl := Option.some.inj H
  go_enter Tryd.func108, Tryd.ntmps108
  go_wp2
  go_ret
  exact ⟨by first | rfl | (simp; done) | (simp [*]; done), by repeat (first | exact Drawn0.refl _ | apply Drawn0.step)⟩
def whirligigref02_inner.f (a0 : Int) : Option (Bool) := (whirligigref02_letter.f a0).bind fun t164 => (if t164 = true then (some true) else (if a0 ≥ 48 then (if a0 ≤ 57 then (some true) else (some (a0 == 95))) else (some (a0 == 95))))
set_option maxHeartbeats 8000000 in
set_option maxRecDepth 100000 in
theorem whirligigref02_inner.calls (a0 : Int) (r : Bool) (w : World) (h : whirligigref02_inner.f a0 = some r) :
  Calls Tryd.prog 113 #[.int .u8 a0] w fun e w' => e = .returned (.bool r) ∧ Drawn0 w w' := by
 have H : ((whirligigref02_letter.f a0).bind fun t164 => (if t164 = true then (some true) else (if a0 ≥ 48 then (if a0 ≤ 57 then (some true) else (some (a0 == 95))) else (some (a0 == 95))))) = some r := h
 clear h
 replace H := Option.bind_eq_some_iff.mp H
 obtain ⟨t164, A20, H⟩ := H
 (try dsimp -simprocs only at H)
 have A2 := Aside0.mk A20
 clear A20
 by_cases c3 : t164 = true
 ·subst c3
  rw [if_pos rfl] at H
  obtain rfl := Option.some.inj H
  go_enter Tryd.func113, Tryd.ntmps113
  go_wp2_with (first | (refine gl (some 4) #[.int .u8 a0] Tryd.func108 ?_; (with_reducible refine (whirligigref02_letter.calls a0 true _ A2.out).mono ?_); rintro e w' ⟨rfl, ⟨nd, rfl⟩⟩; refine ⟨_, rfl, ?_⟩))
  go_ret
  exact ⟨by first | rfl | (simp; done) | (simp [*]; done), by repeat (first | exact Drawn0.refl _ | apply Drawn0.step)⟩
 ·replace c3 := Bool.eq_false_iff.mpr c3
  subst c3
  rw [if_neg (show ¬ (false = true) by decide)] at H
  by_cases c4 : a0 ≥ 48
  ·rw [if_pos c4] at H
   have c4b0 := decide_eq_true c4
   clear c4
   by_cases c5 : a0 ≤ 57
   ·rw [if_pos c5] at H
    have c5b0 := decide_eq_true c5
    clear c5
    obtain rfl := Option.some.inj H
    go_enter Tryd.func113, Tryd.ntmps113
    go_wp2_with (first | (refine gl (some 4) #[.int .u8 a0] Tryd.func108 ?_; (with_reducible refine (whirligigref02_letter.calls a0 false _ A2.out).mono ?_); rintro e w' ⟨rfl, ⟨nd, rfl⟩⟩; refine ⟨_, rfl, ?_⟩))
    go_ret
    exact ⟨by first | rfl | (simp; done) | (simp [*]; done), by repeat (first | exact Drawn0.refl _ | apply Drawn0.step)⟩
   ·rw [if_neg c5] at H
    have c5b0 := decide_eq_false c5
    clear c5
    obtain rfl := Option.some.inj H
    go_enter Tryd.func113, Tryd.ntmps113
    go_wp2_with (first | (refine gl (some 4) #[.int .u8 a0] Tryd.func108 ?_; (with_reducible refine (whirligigref02_letter.calls a0 false _ A2.out).mono ?_); rintro e w' ⟨rfl, ⟨nd, rfl⟩⟩; refine ⟨_, rfl, ?_⟩))
    go_ret
    exact ⟨by first | rfl | (simp; done) | (simp [*]; done), by repeat (first | exact Drawn0.refl _ | apply Drawn0.step)⟩
  ·rw [if_neg c4] at H
   have c4b0 := decide_eq_false c4
   clear c4
   obtain rfl := Option.some.inj H
   go_enter Tryd.func113, Tryd.ntmps113
   go_wp2_with (first | (refine gl (some 4) #[.int .u8 a0] Tryd.func108 ?_; (with_reducible refine (whirligigref02_letter.calls a0 false _ A2.out).mono ?_); rintro e w' ⟨rfl, ⟨nd, rfl⟩⟩; refine ⟨_, rfl, ?_⟩))
   go_ret
   exact ⟨by first | rfl | (simp; done) | (simp [*]; done), by repeat (first | exact Drawn0.refl _ | apply Drawn0.step)⟩
def whirligigref02_word.l0 : Nat → ByteArray → Int → Int → Option (Int)
 | 0, _, _, _ => none
 | k + 1, x0, x1, x5 => if (wrap64 (x1 + x5)) < (x0.size : Int) then (if 0 ≤ (wrap64 (x1 + x5)) then ((whirligigref02_inner.f (bt x0 (wrap64 (x1 + x5)))).bind fun t165 => (if t165 = true then (whirligigref02_word.l0 k x0 x1 (wrap64 (x5 + 1))) else (some x5))) else (none)) else (some x5)
def whirligigref02_word.f (k : Nat) (a0 : ByteArray) (a1 : Int) : Option (Int) := whirligigref02_word.l0 k a0 a1 0
set_option maxHeartbeats 8000000 in
set_option maxRecDepth 100000 in
theorem whirligigref02_word.calls (k : Nat) (a0 : ByteArray) (a1 : Int) (r : Int) (w : World) (h : whirligigref02_word.f k a0 a1 = some r) :
  Calls Tryd.prog 71 #[.string a0, .int .i64 a1] w fun e w' => e = .returned (.int .i64 r) ∧ Drawn0 w w' := by
 have H : (whirligigref02_word.l0 k a0 a1 0) = some r := h
 clear h
 have H' := Aside0.mk H
 clear H
 go_enter Tryd.func71, Tryd.ntmps71
 go_wp2
 go_loopg [5] k (fun kq v5 w' => ∃ (x5_1 : Int), v5 = .int .i64 x5_1 ∧ Aside0 (whirligigref02_word.l0 kq a0 a1 x5_1 = some r) ∧ Aside0 (kq ≤ k) ∧ Drawn0 w w')
 case atStart => exact ⟨(0), (by first | rfl | (simp; done) | (simp [*]; done)), H', ⟨Nat.le_refl _⟩, by repeat (first | exact Drawn0.refl _ | apply Drawn0.step)⟩
 case round =>
  clear H'
  try clear p2
  obtain ⟨x5_1, rfl, HA, HK1, ⟨m1, rfl⟩⟩ := hrel
  cases gk with
  | zero => exact absurd HA.out (by simp [whirligigref02_word.l0])
  | succ k1 =>
   have H := HA.out
   clear HA
   simp only [whirligigref02_word.l0] at H
   by_cases c3 : (wrap64 (a1 + x5_1)) < (a0.size : Int)
   ·rw [if_pos c3] at H
    have c3b0 := decide_eq_true c3
    clear c3
    obtain ⟨ji4, hji4⟩ : ∃ j_ : Int, (wrap64 (a1 + x5_1)) = j_ := ⟨_, rfl⟩
    replace H : (if 0 ≤ (ji4) then ((whirligigref02_inner.f (bt a0 (ji4))).bind fun t165 => (if t165 = true then (whirligigref02_word.l0 k1 a0 a1 (wrap64 (x5_1 + 1))) else (some x5_1))) else (none)) = some r := by first | (rw [hji4] at H; exact H) | (simp only [hji4] at H ⊢; exact H)
    (try rw [hji4] at c3b0)
    have hji4w : (IntKind.i64.wrap (a1 + x5_1)) = ji4 := (i64_w _).trans hji4
    by_cases c5 : 0 ≤ (ji4)
    ·rw [if_pos c5] at H
     have c5b0 := decide_eq_true c5
     clear c5
     replace H := Option.bind_eq_some_iff.mp H
     obtain ⟨t165, A70, H⟩ := H
     (try dsimp -simprocs only at H)
     have A7 := Aside0.mk A70
     clear A70
     by_cases c8 : t165 = true
     ·subst c8
      rw [if_pos rfl] at H
      have H' := Aside0.mk H
      clear H
      have p6 : 0 ≤ ((ji4) : Int) := qD
      have q6 : (ji4) < (a0.size : Int) := qD
      have hx6 := bt_at a0 (ji4)
      replace p6 := eq_true p6
      replace q6 := eq_true q6
      go_wp2_with (first | (go_at_call 113; (with_reducible refine (whirligigref02_inner.calls (bt a0 (ji4)) true _ A7.out).mono ?_); rintro e w' ⟨rfl, ⟨nd, rfl⟩⟩))
      go_roundg k1
      case measure => have := HK1.out; omega
      case rel => exact ⟨(wrap64 (x5_1 + 1)), (by first | rfl | (simp; done) | (simp [*]; done)), H', ⟨by have := HK1.out; omega⟩, by repeat (first | exact Drawn0.refl _ | apply Drawn0.step)⟩
     ·replace c8 := Bool.eq_false_iff.mpr c8
      subst c8
      rw [if_neg (show ¬ (false = true) by decide)] at H
      obtain rfl := Option.some.inj H
      have p6 : 0 ≤ ((ji4) : Int) := qD
      have q6 : (ji4) < (a0.size : Int) := qD
      have hx6 := bt_at a0 (ji4)
      replace p6 := eq_true p6
      replace q6 := eq_true q6
      go_wp2_with (first | (go_at_call 113; (with_reducible refine (whirligigref02_inner.calls (bt a0 (ji4)) false _ A7.out).mono ?_); rintro e w' ⟨rfl, ⟨nd, rfl⟩⟩))
      go_ret
      exact ⟨by first | rfl | (simp; done) | (simp only [← hji4] <;> (first | rfl | simp)) | (simp [*]; done), by repeat (first | exact Drawn0.refl _ | apply Drawn0.step)⟩
    ·rw [if_neg c5] at H
     exact absurd H (by simp)
   ·rw [if_neg c3] at H
    have c3b0 := decide_eq_false c3
    clear c3
    obtain rfl := Option.some.inj H
    go_wp2
    go_ret
    exact ⟨by first | rfl | (simp; done) | (simp [*]; done), by repeat (first | exact Drawn0.refl _ | apply Drawn0.step)⟩
def whirligigref02_path.l0 : Nat → ByteArray → Int → Int → Int → Bool → Option (Int × ByteArray × Int × Int × Int × Int)
 | 0, _, _, _, _, _ => none
 | k + 1, x0, x1, x8, x9, x10 => if x10 = true then (some (0, (⟨#[]⟩ : ByteArray), 0, 0, x1, 15)) else (if (wrap64 (x8 + 1)) < (x0.size : Int) then (if 0 ≤ x8 then (if x8 < (x0.size : Int) then (if (bt x0 x8) = 46 then (if 0 ≤ (wrap64 (x8 + 1)) then ((whirligigref02_letter.f (bt x0 (wrap64 (x8 + 1)))).bind fun t168 => (if t168 = true then ((whirligigref02_word.f k x0 (wrap64 (x8 + 1))).bind fun t169 => (whirligigref02_path.l0 k x0 x1 (wrap64 ((wrap64 (x8 + 1)) + t169)) 2 (decide (t169 > 16)))) else (if (wrap64 (x8 - x1)) > 32 then (some (0, (⟨#[]⟩ : ByteArray), 0, 0, x1, 15)) else (if 0 ≤ x1 then (if x1 ≤ x8 then (if x8 ≤ (x0.size : Int) then (some (x9, x0.extract (x1 : Int).toNat (x8 : Int).toNat, 0, x1, x8, 0)) else (none)) else (none)) else (none))))) else (none)) else (if (wrap64 (x8 - x1)) > 32 then (some (0, (⟨#[]⟩ : ByteArray), 0, 0, x1, 15)) else (if 0 ≤ x1 then (if x1 ≤ x8 then (if x8 ≤ (x0.size : Int) then (some (x9, x0.extract (x1 : Int).toNat (x8 : Int).toNat, 0, x1, x8, 0)) else (none)) else (none)) else (none)))) else (none)) else (none)) else (if (wrap64 (x8 - x1)) > 32 then (some (0, (⟨#[]⟩ : ByteArray), 0, 0, x1, 15)) else (if 0 ≤ x1 then (if x1 ≤ x8 then (if x8 ≤ (x0.size : Int) then (some (x9, x0.extract (x1 : Int).toNat (x8 : Int).toNat, 0, x1, x8, 0)) else (none)) else (none)) else (none))))
def whirligigref02_path.f (k : Nat) (a0 : ByteArray) (a1 : Int) : Option (Int × ByteArray × Int × Int × Int × Int) := (whirligigref02_word.f k a0 a1).bind fun t167 => (whirligigref02_path.l0 k a0 a1 (wrap64 (a1 + t167)) 1 (decide (t167 > 16)))
set_option maxHeartbeats 8000000 in
set_option maxRecDepth 100000 in
theorem whirligigref02_path.calls (k : Nat) (a0 : ByteArray) (a1 : Int) (r1 : Int) (r2 : ByteArray) (r3 : Int) (r4 : Int) (r5 : Int) (r6 : Int) (w : World) (h : whirligigref02_path.f k a0 a1 = some (r1, r2, r3, r4, r5, r6)) :
  Calls Tryd.prog 109 #[.string a0, .int .i64 a1] w fun e w' => e = .returned (.tuple #[.agg #[.int .i64 r1, .string r2, .int .i64 r3, .int .i64 r4], .int .i64 r5, .int .i64 r6]) ∧ Below w.heap.size w w' := by
 have hu31 := Tryd.underlying31
 have HB := Aside0.mk (Below.refl w.heap.size w)
 have H : ((whirligigref02_word.f k a0 a1).bind fun t167 => (whirligigref02_path.l0 k a0 a1 (wrap64 (a1 + t167)) 1 (decide (t167 > 16)))) = some (r1, r2, r3, r4, r5, r6) := h
 clear h
 replace H := Option.bind_eq_some_iff.mp H
 obtain ⟨t167, A30, H⟩ := H
 (try dsimp -simprocs only at H)
 have A3 := Aside0.mk A30
 clear A30
 have H' := Aside0.mk H
 clear H
 go_enter Tryd.func109, Tryd.ntmps109
 go_wp2_with (first | ((with_reducible refine gate_dst (N := 4) rfl ?_); (try (refine gate_guard (by rfl) ?_; dsimp only)); refine box_event ?hg (N := 4) ?hd (cs := #[.int .i64 0, .string (⟨#[]⟩ : ByteArray), .int .i64 0, .int .i64 0]) (t := 31) ?hr ?_; (case hd => rfl); (case hg => rfl); (case hr => first | (go_simp; done) | (go_simp; rfl)); intro gb166 hg w4 hbox hb; have BK166 := Aside0.mk (hbox); have GW166 := geS hg; have GE166 := geS hg; replace HB := bst hb; clear hb hbox hg) | (refine gl (some 13) #[.string a0, .int .i64 a1] Tryd.func71 ?_; (with_reducible refine (whirligigref02_word.calls k a0 a1 t167 _ A3.out).mono ?_); rintro e w' ⟨rfl, ⟨nd, rfl⟩⟩; refine ⟨_, rfl, ?_⟩))
 go_loopg [8, 9, 10] k (fun kq v8 v9 v10 w' => ∃ (x8_1 : Int) (x9_1 : Int) (x10_1 : Bool), v8 = .int .i64 x8_1 ∧ v9 = .int .i64 x9_1 ∧ v10 = .bool x10_1 ∧ Aside0 (whirligigref02_path.l0 kq a0 a1 x8_1 x9_1 x10_1 = some (r1, r2, r3, r4, r5, r6)) ∧ Aside0 (kq ≤ k) ∧ Aside0 (w'.heap[gb166]? = some (.cells #[.int .i64 0, .string (⟨#[]⟩ : ByteArray), .int .i64 0, .int .i64 0] 31 (0, 0))) ∧ Aside0 (Below w.heap.size w w'))
 case atStart => exact ⟨(wrap64 (a1 + t167)), (1), (decide (t167 > 16)), (by first | rfl | (simp; done) | (simp [*]; done)), (by first | rfl | (simp; done) | (simp [*]; done)), (by first | rfl | (simp; done) | (simp [*]; done)), H', ⟨Nat.le_refl _⟩, ⟨qK⟩, ⟨qB⟩⟩
 case round =>
  clear H'
  try clear c1
  try clear p2
  obtain ⟨x8_1, x9_1, x10_1, rfl, rfl, rfl, HA, HK1, BK166, HB⟩ := hrel
  cases gk with
  | zero => exact absurd HA.out (by simp [whirligigref02_path.l0])
  | succ k1 =>
   have H := HA.out
   clear HA
   simp only [whirligigref02_path.l0] at H
   by_cases c5 : x10_1 = true
   ·subst c5
    rw [if_pos rfl] at H
    simp only [Option.some.injEq, Prod.mk.injEq] at H
    obtain ⟨rfl, rfl, rfl, rfl, rfl, rfl⟩ := H
    obtain ⟨hcz6_0, hcz6_1, hcz6_2, hcz6_3, hfz6_0, hfz6_1, hfz6_2, hfz6_3⟩ := cells4 BK166.out
    go_wp2
    refine bodyPost_ret (results_ctt rfl _ _ gb166 31 #[.int .i64 0, .string (⟨#[]⟩ : ByteArray), .int .i64 0, .int .i64 0] (0, 0) _ rfl qP Tryd.underlying31 rfl (by kernel_rfl)) rfl ?_
    exact ⟨qR, qB⟩
   ·replace c5 := Bool.eq_false_iff.mpr c5
    subst c5
    rw [if_neg (show ¬ (false = true) by decide)] at H
    by_cases c7 : (wrap64 (x8_1 + 1)) < (a0.size : Int)
    ·rw [if_pos c7] at H
     have c7b0 := decide_eq_true c7
     clear c7
     by_cases c8 : 0 ≤ x8_1
     ·rw [if_pos c8] at H
      have c8b0 := decide_eq_true c8
      clear c8
      by_cases c9 : x8_1 < (a0.size : Int)
      ·rw [if_pos c9] at H
       have c9b0 := decide_eq_true c9
       clear c9
       by_cases c11 : (bt a0 x8_1) = 46
       ·rw [if_pos c11] at H
        have c11b0 := beq_iff_eq.mpr c11
        have c11b1 := bne_eq_false_iff_eq.mpr c11
        clear c11
        obtain ⟨ji12, hji12⟩ : ∃ j_ : Int, (wrap64 (x8_1 + 1)) = j_ := ⟨_, rfl⟩
        replace H : (if 0 ≤ (ji12) then ((whirligigref02_letter.f (bt a0 (ji12))).bind fun t168 => (if t168 = true then ((whirligigref02_word.f k1 a0 (ji12)).bind fun t169 => (whirligigref02_path.l0 k1 a0 a1 (wrap64 ((ji12) + t169)) 2 (decide (t169 > 16)))) else (if (wrap64 (x8_1 - a1)) > 32 then (some (0, (⟨#[]⟩ : ByteArray), 0, 0, a1, 15)) else (if 0 ≤ a1 then (if a1 ≤ x8_1 then (if x8_1 ≤ (a0.size : Int) then (some (x9_1, a0.extract (a1 : Int).toNat (x8_1 : Int).toNat, 0, a1, x8_1, 0)) else (none)) else (none)) else (none))))) else (none)) = some (r1, r2, r3, r4, r5, r6) := by first | (rw [hji12] at H; exact H) | (simp only [hji12] at H ⊢; exact H)
        (try rw [hji12] at c7b0)
        have hji12w : (IntKind.i64.wrap (x8_1 + 1)) = ji12 := (i64_w _).trans hji12
        by_cases c13 : 0 ≤ (ji12)
        ·rw [if_pos c13] at H
         have c13b0 := decide_eq_true c13
         clear c13
         replace H := Option.bind_eq_some_iff.mp H
         obtain ⟨t168, A150, H⟩ := H
         (try dsimp -simprocs only at H)
         have A15 := Aside0.mk A150
         clear A150
         by_cases c16 : t168 = true
         ·subst c16
          rw [if_pos rfl] at H
          replace H := Option.bind_eq_some_iff.mp H
          obtain ⟨t169, A170, H⟩ := H
          (try dsimp -simprocs only at H)
          have A17 := Aside0.mk A170
          clear A170
          have H' := Aside0.mk H
          clear H
          have p10 : 0 ≤ (x8_1 : Int) := qD
          have q10 : x8_1 < (a0.size : Int) := qD
          have hx10 := bt_at a0 x8_1
          replace p10 := eq_true p10
          replace q10 := eq_true q10
          have p14 : 0 ≤ ((ji12) : Int) := qD
          have q14 : (ji12) < (a0.size : Int) := qD
          have hx14 := bt_at a0 (ji12)
          replace p14 := eq_true p14
          replace q14 := eq_true q14
          go_wp2_with (first | (go_at_call 108; (with_reducible refine (whirligigref02_letter.calls (bt a0 (ji12)) true _ A15.out).mono ?_); rintro e w' ⟨rfl, ⟨nd, rfl⟩⟩) | ((with_reducible refine gate_callee (f := 71) rfl ?_); refine goesL_ (some 44) rfl rfl Tryd.func71 (by kernel_rfl) rfl #[.string a0, .int .i64 ji12] rfl (by (try simp only [List.map_toArray, List.map_cons, List.map_nil]); first | done | (simp only [hji12]; rfl) | rfl | (simp only [List.length_drop, List.length_take]; rfl)) ?_; (with_reducible refine (whirligigref02_word.calls k1 a0 ji12 t169 _ A17.out).mono ?_); rintro e w' ⟨rfl, ⟨nd, rfl⟩⟩; refine ⟨_, rfl, ?_⟩))
          go_roundg k1
          case measure => have := HK1.out; omega
          case rel => exact ⟨(wrap64 ((ji12) + t169)), (2), (decide (t169 > 16)), (by first | rfl | (simp; done) | (simp only [← hji12] <;> (first | rfl | simp)) | (simp [*]; done)), (by first | rfl | (simp; done) | (simp [*]; done)), (by first | rfl | (simp; done) | (simp [*]; done)), H', ⟨by have := HK1.out; omega⟩, ⟨qK⟩, ⟨qB⟩⟩
         ·replace c16 := Bool.eq_false_iff.mpr c16
          subst c16
          rw [if_neg (show ¬ (false = true) by decide)] at H
          by_cases c18 : (wrap64 (x8_1 - a1)) > 32
          ·rw [if_pos c18] at H
           have c18b0 := decide_eq_true c18
           clear c18
           simp only [Option.some.injEq, Prod.mk.injEq] at H
           obtain ⟨rfl, rfl, rfl, rfl, rfl, rfl⟩ := H
           have p10 : 0 ≤ (x8_1 : Int) := qD
           have q10 : x8_1 < (a0.size : Int) := qD
           have hx10 := bt_at a0 x8_1
           replace p10 := eq_true p10
           replace q10 := eq_true q10
           have p14 : 0 ≤ ((ji12) : Int) := qD
           have q14 : (ji12) < (a0.size : Int) := qD
           have hx14 := bt_at a0 (ji12)
           replace p14 := eq_true p14
           replace q14 := eq_true q14
           go_wp2_with (first | (go_at_call 108; (with_reducible refine (whirligigref02_letter.calls (bt a0 (ji12)) false _ A15.out).mono ?_); rintro e w' ⟨rfl, ⟨nd, rfl⟩⟩; (try (rw [drewN_self wr]; generalize hq_ : World.drewN wr _ = wr; have n0_ : Aside0 (wr.heap[gb166]? = some (.cells #[.int .i64 0, .string (⟨#[]⟩ : ByteArray), .int .i64 0, .int .i64 0] 31 (0, 0))) := ⟨by rw [← hq_]; exact qK⟩; have n1_ : Aside0 (Below w.heap.size w wr) := ⟨by rw [← hq_]; exact qB⟩; clear BK166 HB hq_; have BK166 := n0_; have HB := n1_; clear n0_ n1_)); obtain ⟨hcz19_0, hcz19_1, hcz19_2, hcz19_3, hfz19_0, hfz19_1, hfz19_2, hfz19_3⟩ := cells4 BK166.out))
           refine bodyPost_ret (results_ctt rfl _ _ gb166 31 #[.int .i64 0, .string (⟨#[]⟩ : ByteArray), .int .i64 0, .int .i64 0] (0, 0) _ rfl qP Tryd.underlying31 rfl (by kernel_rfl)) rfl ?_
           exact ⟨by first | rfl | (simp [errW_none, errW_some] <;> rfl) | (simp only [← hji12]; first | rfl | (simp [errW_none, errW_some] <;> rfl)) | (simp [*, errW_none, errW_some] <;> rfl), qB⟩
          ·rw [if_neg c18] at H
           have c18b0 := decide_eq_false c18
           clear c18
           by_cases c20 : 0 ≤ a1
           ·rw [if_pos c20] at H
            have c20b0 := eq_true c20
            have c20b1 := decide_eq_true c20
            clear c20
            by_cases c21 : a1 ≤ x8_1
            ·rw [if_pos c21] at H
             have c21b0 := eq_true c21
             have c21b1 := decide_eq_true c21
             clear c21
             by_cases c22 : x8_1 ≤ (a0.size : Int)
             ·rw [if_pos c22] at H
              have c22b0 := eq_true c22
              have c22b1 := decide_eq_true c22
              clear c22
              simp only [Option.some.injEq, Prod.mk.injEq] at H
              obtain ⟨rfl, rfl, rfl, rfl, rfl, rfl⟩ := H
              have p10 : 0 ≤ (x8_1 : Int) := qD
              have q10 : x8_1 < (a0.size : Int) := qD
              have hx10 := bt_at a0 x8_1
              replace p10 := eq_true p10
              replace q10 := eq_true q10
              have p14 : 0 ≤ ((ji12) : Int) := qD
              have q14 : (ji12) < (a0.size : Int) := qD
              have hx14 := bt_at a0 (ji12)
              replace p14 := eq_true p14
              replace q14 := eq_true q14
              go_wp2_with (first | (go_at_call 108; (with_reducible refine (whirligigref02_letter.calls (bt a0 (ji12)) false _ A15.out).mono ?_); rintro e w' ⟨rfl, ⟨nd, rfl⟩⟩; (try (rw [drewN_self wr]; generalize hq_ : World.drewN wr _ = wr; have n0_ : Aside0 (wr.heap[gb166]? = some (.cells #[.int .i64 0, .string (⟨#[]⟩ : ByteArray), .int .i64 0, .int .i64 0] 31 (0, 0))) := ⟨by rw [← hq_]; exact qK⟩; have n1_ : Aside0 (Below w.heap.size w wr) := ⟨by rw [← hq_]; exact qB⟩; clear BK166 HB hq_; have BK166 := n0_; have HB := n1_; clear n0_ n1_)); obtain ⟨hcz23_0, hcz23_1, hcz23_2, hcz23_3, hfz23_0, hfz23_1, hfz23_2, hfz23_3⟩ := cells4 BK166.out))
              refine bodyPost_ret (results_ctt rfl _ _ gb166 31 #[.int .i64 x9_1, .string (a0.extract (a1 : Int).toNat (x8_1 : Int).toNat), .int .i64 0, .int .i64 a1] (0, 0) _ rfl qP Tryd.underlying31 rfl (by kernel_rfl)) rfl ?_
              exact ⟨by first | rfl | (simp [errW_none, errW_some] <;> rfl) | (simp only [← hji12]; first | rfl | (simp [errW_none, errW_some] <;> rfl)) | (simp [*, errW_none, errW_some] <;> rfl), qB⟩
             ·rw [if_neg c22] at H
              exact absurd H (by simp)
            ·rw [if_neg c21] at H
             exact absurd H (by simp)
           ·rw [if_neg c20] at H
            exact absurd H (by simp)
        ·rw [if_neg c13] at H
         exact absurd H (by simp)
       ·rw [if_neg c11] at H
        have c11b0 := beq_eq_false_iff_ne.mpr c11
        have c11b1 := bne_iff_ne.mpr c11
        by_cases c24 : (wrap64 (x8_1 - a1)) > 32
        ·rw [if_pos c24] at H
         have c24b0 := decide_eq_true c24
         clear c24
         simp only [Option.some.injEq, Prod.mk.injEq] at H
         obtain ⟨rfl, rfl, rfl, rfl, rfl, rfl⟩ := H
         have p10 : 0 ≤ (x8_1 : Int) := qD
         have q10 : x8_1 < (a0.size : Int) := qD
         have hx10 := bt_at a0 x8_1
         replace p10 := eq_true p10
         replace q10 := eq_true q10
         obtain ⟨hcz25_0, hcz25_1, hcz25_2, hcz25_3, hfz25_0, hfz25_1, hfz25_2, hfz25_3⟩ := cells4 BK166.out
         go_wp2
         refine bodyPost_ret (results_ctt rfl _ _ gb166 31 #[.int .i64 0, .string (⟨#[]⟩ : ByteArray), .int .i64 0, .int .i64 0] (0, 0) _ rfl qP Tryd.underlying31 rfl (by kernel_rfl)) rfl ?_
         exact ⟨qR, qB⟩
        ·rw [if_neg c24] at H
         have c24b0 := decide_eq_false c24
         clear c24
         by_cases c26 : 0 ≤ a1
         ·rw [if_pos c26] at H
          have c26b0 := eq_true c26
          have c26b1 := decide_eq_true c26
          clear c26
          by_cases c27 : a1 ≤ x8_1
          ·rw [if_pos c27] at H
           have c27b0 := eq_true c27
           have c27b1 := decide_eq_true c27
           clear c27
           by_cases c28 : x8_1 ≤ (a0.size : Int)
           ·rw [if_pos c28] at H
            have c28b0 := eq_true c28
            have c28b1 := decide_eq_true c28
            clear c28
            simp only [Option.some.injEq, Prod.mk.injEq] at H
            obtain ⟨rfl, rfl, rfl, rfl, rfl, rfl⟩ := H
            have p10 : 0 ≤ (x8_1 : Int) := qD
            have q10 : x8_1 < (a0.size : Int) := qD
            have hx10 := bt_at a0 x8_1
            replace p10 := eq_true p10
            replace q10 := eq_true q10
            obtain ⟨hcz29_0, hcz29_1, hcz29_2, hcz29_3, hfz29_0, hfz29_1, hfz29_2, hfz29_3⟩ := cells4 BK166.out
            go_wp2
            refine bodyPost_ret (results_ctt rfl _ _ gb166 31 #[.int .i64 x9_1, .string (a0.extract (a1 : Int).toNat (x8_1 : Int).toNat), .int .i64 0, .int .i64 a1] (0, 0) _ rfl qP Tryd.underlying31 rfl (by kernel_rfl)) rfl ?_
            exact ⟨qR, qB⟩
           ·rw [if_neg c28] at H
            exact absurd H (by simp)
          ·rw [if_neg c27] at H
           exact absurd H (by simp)
         ·rw [if_neg c26] at H
          exact absurd H (by simp)
      ·rw [if_neg c9] at H
       exact absurd H (by simp)
     ·rw [if_neg c8] at H
      exact absurd H (by simp)
    ·rw [if_neg c7] at H
     have c7b0 := decide_eq_false c7
     clear c7
     by_cases c30 : (wrap64 (x8_1 - a1)) > 32
     ·rw [if_pos c30] at H
      have c30b0 := decide_eq_true c30
      clear c30
      simp only [Option.some.injEq, Prod.mk.injEq] at H
      obtain ⟨rfl, rfl, rfl, rfl, rfl, rfl⟩ := H
      obtain ⟨hcz31_0, hcz31_1, hcz31_2, hcz31_3, hfz31_0, hfz31_1, hfz31_2, hfz31_3⟩ := cells4 BK166.out
      go_wp2
      refine bodyPost_ret (results_ctt rfl _ _ gb166 31 #[.int .i64 0, .string (⟨#[]⟩ : ByteArray), .int .i64 0, .int .i64 0] (0, 0) _ rfl qP Tryd.underlying31 rfl (by kernel_rfl)) rfl ?_
      exact ⟨qR, qB⟩
     ·rw [if_neg c30] at H
      have c30b0 := decide_eq_false c30
      clear c30
      by_cases c32 : 0 ≤ a1
      ·rw [if_pos c32] at H
       have c32b0 := eq_true c32
       have c32b1 := decide_eq_true c32
       clear c32
       by_cases c33 : a1 ≤ x8_1
       ·rw [if_pos c33] at H
        have c33b0 := eq_true c33
        have c33b1 := decide_eq_true c33
        clear c33
        by_cases c34 : x8_1 ≤ (a0.size : Int)
        ·rw [if_pos c34] at H
         have c34b0 := eq_true c34
         have c34b1 := decide_eq_true c34
         clear c34
         simp only [Option.some.injEq, Prod.mk.injEq] at H
         obtain ⟨rfl, rfl, rfl, rfl, rfl, rfl⟩ := H
         obtain ⟨hcz35_0, hcz35_1, hcz35_2, hcz35_3, hfz35_0, hfz35_1, hfz35_2, hfz35_3⟩ := cells4 BK166.out
         go_wp2
         refine bodyPost_ret (results_ctt rfl _ _ gb166 31 #[.int .i64 x9_1, .string (a0.extract (a1 : Int).toNat (x8_1 : Int).toNat), .int .i64 0, .int .i64 a1] (0, 0) _ rfl qP Tryd.underlying31 rfl (by kernel_rfl)) rfl ?_
         exact ⟨qR, qB⟩
        ·rw [if_neg c34] at H
         exact absurd H (by simp)
       ·rw [if_neg c33] at H
        exact absurd H (by simp)
      ·rw [if_neg c32] at H
       exact absurd H (by simp)
def whirligigref01_Digits.f : Nat → Int → Option (ByteArray)
 | 0, _ => none
 | k + 1, a0 => if a0 ≤ (-10) then ((whirligigref01_Digits.f k (wrap64 (Int.tdiv a0 10))).bind fun t170 => ((whirligigref01_Digits.f k (wrap64 (-(Int.tmod a0 10)))).bind fun t171 => (if t170.size + t171.size ≤ 9223372036854775807 then (some (t170 ++ t171)) else (none)))) else (if a0 < 0 then ((whirligigref01_Digits.f k (wrap64 (-a0))).bind fun t172 => (if 1 + t172.size ≤ 9223372036854775807 then (some ((⟨#[45]⟩ : ByteArray) ++ t172)) else (none))) else (if a0 < 10 then (some (strOfNums (([(wrap64 (48 + a0)) % 256] : List Int)))) else ((whirligigref01_Digits.f k (wrap64 (Int.tdiv a0 10))).bind fun t176 => ((whirligigref01_Digits.f k (Int.tmod a0 10)).bind fun t177 => (if t176.size + t177.size ≤ 9223372036854775807 then (some (t176 ++ t177)) else (none))))))
set_option maxHeartbeats 8000000 in
set_option maxRecDepth 100000 in
theorem whirligigref01_Digits.calls (k : Nat) : ∀ (a0 : Int) (r : ByteArray) (w : World) (h : whirligigref01_Digits.f k a0 = some r),
  Calls Tryd.prog 154 #[.int .i64 a0] w fun e w' => e = .returned (.string r) ∧ Below w.heap.size w w' := by
 induction k using Nat.strongRecOn with
 | _ k ih =>
 intro a0 r w h
 cases k with
 | zero => exact absurd h (by simp [whirligigref01_Digits.f])
 | succ k =>
 simp only [whirligigref01_Digits.f] at h
 have HB := Aside0.mk (Below.refl w.heap.size w)
 have H : (if a0 ≤ (-10) then ((whirligigref01_Digits.f k (wrap64 (Int.tdiv a0 10))).bind fun t170 => ((whirligigref01_Digits.f k (wrap64 (-(Int.tmod a0 10)))).bind fun t171 => (if t170.size + t171.size ≤ 9223372036854775807 then (some (t170 ++ t171)) else (none)))) else (if a0 < 0 then ((whirligigref01_Digits.f k (wrap64 (-a0))).bind fun t172 => (if 1 + t172.size ≤ 9223372036854775807 then (some ((⟨#[45]⟩ : ByteArray) ++ t172)) else (none))) else (if a0 < 10 then (some (strOfNums (([(wrap64 (48 + a0)) % 256] : List Int)))) else ((whirligigref01_Digits.f k (wrap64 (Int.tdiv a0 10))).bind fun t176 => ((whirligigref01_Digits.f k (Int.tmod a0 10)).bind fun t177 => (if t176.size + t177.size ≤ 9223372036854775807 then (some (t176 ++ t177)) else (none))))))) = some r := h
 clear h
 by_cases c2 : a0 ≤ (-10)
 ·rw [if_pos c2] at H
  have c2b0 := decide_eq_true c2
  clear c2
  replace H := Option.bind_eq_some_iff.mp H
  obtain ⟨t170, A30, H⟩ := H
  (try dsimp -simprocs only at H)
  have A3 := Aside0.mk A30
  clear A30
  replace H := Option.bind_eq_some_iff.mp H
  obtain ⟨t171, A40, H⟩ := H
  (try dsimp -simprocs only at H)
  have A4 := Aside0.mk A40
  clear A40
  by_cases c5 : t170.size + t171.size ≤ 9223372036854775807
  ·rw [if_pos c5] at H
   have c5b0 := eq_true c5
   have c5b1 := decide_eq_true c5
   try have c5b2 : (9223372036854775807 < t170.size + t171.size) = False := eq_false (Nat.not_lt.2 c5)
   obtain rfl := Option.some.inj H
   go_enter Tryd.func154, Tryd.ntmps154
   go_wp2_with (first | (refine gl (some 7) #[.int .i64 (wrap64 (Int.tdiv a0 10))] Tryd.func154 ?_; (with_reducible refine (ih k (by omega) (wrap64 (Int.tdiv a0 10)) t170 _ A3.out).mono ?_); rintro e w6 ⟨rfl, hb⟩; refine ⟨_, rfl, ?_⟩; replace HB := bst hb; (try clear hb)) | (refine gl (some 11) #[.int .i64 (wrap64 (-(Int.tmod a0 10)))] Tryd.func154 ?_; (with_reducible refine (ih k (by omega) (wrap64 (-(Int.tmod a0 10))) t171 _ A4.out).mono ?_); rintro e w7 ⟨rfl, hb⟩; refine ⟨_, rfl, ?_⟩; replace HB := bst hb; (try clear hb)))
   go_ret
   exact ⟨qR, qB⟩
  ·rw [if_neg c5] at H
   exact absurd H (by simp)
 ·rw [if_neg c2] at H
  have c2b0 := decide_eq_false c2
  clear c2
  by_cases c8 : a0 < 0
  ·rw [if_pos c8] at H
   have c8b0 := decide_eq_true c8
   clear c8
   replace H := Option.bind_eq_some_iff.mp H
   obtain ⟨t172, A90, H⟩ := H
   (try dsimp -simprocs only at H)
   have A9 := Aside0.mk A90
   clear A90
   by_cases c10 : 1 + t172.size ≤ 9223372036854775807
   ·rw [if_pos c10] at H
    have c10b0 := eq_true c10
    have c10b1 := decide_eq_true c10
    try have c10b2 : (9223372036854775807 < 1 + t172.size) = False := eq_false (Nat.not_lt.2 c10)
    obtain rfl := Option.some.inj H
    go_enter Tryd.func154, Tryd.ntmps154
    go_wp2_with (first | (refine gl (some 17) #[.int .i64 (wrap64 (-a0))] Tryd.func154 ?_; (with_reducible refine (ih k (by omega) (wrap64 (-a0)) t172 _ A9.out).mono ?_); rintro e w11 ⟨rfl, hb⟩; refine ⟨_, rfl, ?_⟩; replace HB := bst hb; (try clear hb)))
    go_ret
    exact ⟨qR, qB⟩
   ·rw [if_neg c10] at H
    exact absurd H (by simp)
  ·rw [if_neg c8] at H
   have c8b0 := decide_eq_false c8
   clear c8
   by_cases c12 : a0 < 10
   ·rw [if_pos c12] at H
    have c12b0 := decide_eq_true c12
    clear c12
    obtain ⟨y173, hy173⟩ : ∃ y_ : List Int, y_ = (([(wrap64 (48 + a0)) % 256] : List Int)) := ⟨_, rfl⟩
    replace H : (some (strOfNums y173)) = some r := by first | (rw [hy173]; with_reducible exact H) | (have H2_ := (Option.bind_some _ _).symm.trans H; rw [hy173]; with_reducible exact H2_) | (have H2_ := (Option.bind_some _ _).symm.trans H; with_reducible exact H2_) | with_reducible exact H | (rw [hy173]; exact H) | exact H
    have Ny173 := Aside0.mk hy173
    clear hy173
    obtain rfl := Option.some.inj H
    go_enter Tryd.func154, Tryd.ntmps154
    go_wp2_with (first | ((with_reducible refine gate_dst (N := 24) rfl ?_); refine Kd.R_lit (Kd.int .u8) _ 5 ?hg (N := 24) ?hd (xs := ([(wrap64 (48 + a0)) % 256] : List Int)) (inner := [.int .u8 ((wrap64 (48 + a0)) % 256)]) (ok := fun _ => True) (okp := fun _ => True) ?hr ?hp (fun _ hk => hk) trivial (Below.refl _ _) (Nat.le_refl _) (by simp) ?_; (case hd => rfl); (case hg => rfl); (case hr => first | (go_simp; done) | (go_simp; rfl)); (case hp => exact (Reps.one (show Kd.M (Kd.int .u8) _ _ _ ((wrap64 (48 + a0)) % 256) [.int .u8 ((wrap64 (48 + a0)) % 256)] from rfl) (Reps.none _ _))); intro v174 w13 ho14 hb hg_ hnew_; clear hg_ hnew_; (first | rw [← Ny173.out] at ho14 | (simp only [Int.reduceToNat] at ho14; rw [← Ny173.out] at ho14)); have HO175 := Aside0.mk (Kd.R_lower ho14 (below_size qB)); replace HB := bst hb; clear hb ho14; have hcv15 := own_string (P := Tryd.prog) Tryd.underlying131 Tryd.underlying5 Tryd.underlying9 (Kd.own_of_R HO175.out)))
    go_ret
    exact ⟨qR, qB⟩
   ·rw [if_neg c12] at H
    have c12b0 := decide_eq_false c12
    clear c12
    replace H := Option.bind_eq_some_iff.mp H
    obtain ⟨t176, A160, H⟩ := H
    (try dsimp -simprocs only at H)
    have A16 := Aside0.mk A160
    clear A160
    replace H := Option.bind_eq_some_iff.mp H
    obtain ⟨t177, A170, H⟩ := H
    (try dsimp -simprocs only at H)
    have A17 := Aside0.mk A170
    clear A170
    by_cases c18 : t176.size + t177.size ≤ 9223372036854775807
    ·rw [if_pos c18] at H
     have c18b0 := eq_true c18
     have c18b1 := decide_eq_true c18
     try have c18b2 : (9223372036854775807 < t176.size + t177.size) = False := eq_false (Nat.not_lt.2 c18)
     obtain rfl := Option.some.inj H
     go_enter Tryd.func154, Tryd.ntmps154
     go_wp2_with (first | (refine gl (some 28) #[.int .i64 (wrap64 (Int.tdiv a0 10))] Tryd.func154 ?_; (with_reducible refine (ih k (by omega) (wrap64 (Int.tdiv a0 10)) t176 _ A16.out).mono ?_); rintro e w19 ⟨rfl, hb⟩; refine ⟨_, rfl, ?_⟩; replace HB := bst hb; (try clear hb)) | (refine gl (some 31) #[.int .i64 (Int.tmod a0 10)] Tryd.func154 ?_; (with_reducible refine (ih k (by omega) (Int.tmod a0 10) t177 _ A17.out).mono ?_); rintro e w20 ⟨rfl, hb⟩; refine ⟨_, rfl, ?_⟩; replace HB := bst hb; (try clear hb)))
     go_ret
     exact ⟨qR, qB⟩
    ·rw [if_neg c18] at H
     exact absurd H (by simp)
end Go.Proofs.YtbngfhlciebeeaaDoor.L
end
section
namespace Go.Proofs.YtbngfhlciebeeaaDoor.L
open Go.RowKit Go.Proofs.YtbngfhlciebeeaaDoorW.PrintWords Go.Proofs.YtbngfhlciebeeaaDoorW.PrintLast Go.Proofs.YtbngfhlciebeeaaDoorW.PrintMore
attribute [local go_sem] max2_int min2_int max_two min_two max_three min_three max_four min_four   -- for this text's walks alone
set_option linter.unusedVariables false
set_option linter.unusedSimpArgs false
mutual
def whirligigref01_Number.j0 : Nat → ByteArray → ByteArray → Bool → Option (Int × Bool)
 | 0, _, _, _ => none
 | k + 1, x0, x4, x16 => if x16 = true then (if 1 ≤ (x0.size : Int) then (whirligigref01_Number.j1 k x0 (x0.extract 1 x0.size)) else (none)) else (whirligigref01_Number.j1 k x0 x4)
def whirligigref01_Number.j1 : Nat → ByteArray → ByteArray → Option (Int × Bool)
 | 0, _, _ => none
 | k + 1, x0, x4 => if (x4.size : Int) = 0 then (whirligigref01_Number.j2 k x0 x4 true) else (whirligigref01_Number.j2 k x0 x4 (decide ((x4.size : Int) > 19)))
def whirligigref01_Number.j2 : Nat → ByteArray → ByteArray → Bool → Option (Int × Bool)
 | 0, _, _, _ => none
 | k + 1, x0, x4, x26 => if x26 = true then (some (0, false)) else (whirligigref01_Number.l0 k x0 x4 0 0)
def whirligigref01_Number.l0 : Nat → ByteArray → ByteArray → Int → Int → Option (Int × Bool)
 | 0, _, _, _, _ => none
 | k + 1, x0, x4, x5, x6 => if x6 < (x4.size : Int) then (if 0 ≤ x6 then (if (bt x4 x6) < 48 then (whirligigref01_Number.j4 k x0 x4 x5 x6 true) else (whirligigref01_Number.j4 k x0 x4 x5 x6 (decide ((bt x4 x6) > 57)))) else (none)) else (if (x4.size : Int) = (x0.size : Int) then (if x5 = (-9223372036854775808) then (some (0, false)) else ((whirligigref01_Digits.f k (wrap64 (-x5))).bind fun t178 => (some (wrap64 (-x5), (t178.toList == x0.toList))))) else ((whirligigref01_Digits.f k x5).bind fun t179 => (some (x5, (t179.toList == x0.toList)))))
def whirligigref01_Number.j4 : Nat → ByteArray → ByteArray → Int → Int → Bool → Option (Int × Bool)
 | 0, _, _, _, _, _ => none
 | k + 1, x0, x4, x5, x6, x42 => if x42 = true then (some (0, false)) else (if 0 ≤ x6 then (if x6 < (x4.size : Int) then (if x5 < (Int.tdiv ((-9223372036854775808) + (((bt x4 x6) - 48) % 256)) 10) then (some (0, false)) else (whirligigref01_Number.l0 k x0 x4 (wrap64 ((wrap64 (10 * x5)) - (((bt x4 x6) - 48) % 256))) (wrap64 (x6 + 1)))) else (none)) else (none))
end
def whirligigref01_Number.f (k : Nat) (a0 : ByteArray) : Option (Int × Bool) := if (a0.size : Int) > 0 then (if 0 < (a0.size : Int) then (whirligigref01_Number.j0 k a0 a0 ((bt a0 0) == 45)) else (none)) else (whirligigref01_Number.j0 k a0 a0 false)
set_option maxHeartbeats 8000000 in
set_option maxRecDepth 100000 in
theorem whirligigref01_Number.calls (k : Nat) (a0 : ByteArray) (r1 : Int) (r2 : Bool) (w : World) (h : whirligigref01_Number.f k a0 = some (r1, r2)) :
  Calls Tryd.prog 135 #[.string a0] w fun e w' => e = .returned (.tuple #[.int .i64 r1, .bool r2]) ∧ Below w.heap.size w w' := by
 have HB := Aside0.mk (Below.refl w.heap.size w)
 have H : (if (a0.size : Int) > 0 then (if 0 < (a0.size : Int) then (whirligigref01_Number.j0 k a0 a0 ((bt a0 0) == 45)) else (none)) else (whirligigref01_Number.j0 k a0 a0 false)) = some (r1, r2) := h
 clear h
 have HC2 := Aside0.mk H
 clear H
 go_enter Tryd.func135, Tryd.ntmps135
 go_upto_region 2 with (fail)
 go_cut [16] (fun v16 wc => ∃ (kq : Nat) (x16_1 : Bool), v16 = .bool x16_1 ∧ Aside0 (whirligigref01_Number.j0 kq a0 a0 x16_1 = some (r1, r2)) ∧ Aside0 (kq ≤ k) ∧ Aside0 (Below w.heap.size w wc))
 case first =>
  have H := HC2.out
  clear HC2
  by_cases c3 : (a0.size : Int) > 0
  ·rw [if_pos c3] at H
   have c3b0 := decide_eq_true c3
   have c3b1 : decide (0 < a0.size) = true := decide_eq_true (by omega)
   clear c3
   (first | rw [c3b0] | (simp only [i64_w, i32_w]; rw [c3b0]) | skip)
   by_cases c4 : 0 < (a0.size : Int)
   ·rw [if_pos c4] at H
    have c4b0 := decide_eq_true c4
    have c4b1 : decide (0 < a0.size) = true := decide_eq_true (by omega)
    clear c4
    have H' := Aside0.mk H
    clear H
    have p5 : 0 ≤ (0 : Int) := (by omega)
    have q5 : 0 < a0.size := (by have : (0 : Int) < (a0.size : Int) := qD; omega)
    have hx5 : ∀ h : 0 < a0.size, ((a0[0]'h).toNat : Int) = bt a0 0 := bt_at a0 0
    clear p5
    have qi5 : (0 < (a0.size : Int)) = True := eq_true (qD)
    replace q5 := eq_true q5
    go_wp2
    go_meet
    case rel => exact ⟨_, (((bt a0 0) == 45)), (by first | rfl | (simp; done) | (simp [*]; done)), H', ⟨by first | omega | exact Nat.le_refl _⟩, ⟨qB⟩⟩
   ·rw [if_neg c4] at H
    exact absurd H (by simp)
  ·rw [if_neg c3] at H
   have c3b0 := decide_eq_false c3
   have c3b1 : decide (0 < a0.size) = false := decide_eq_false (by omega)
   clear c3
   (first | rw [c3b0] | (simp only [i64_w, i32_w]; rw [c3b0]) | skip)
   have H' := Aside0.mk H
   clear H
   go_wp2
   go_meet
   case rel => exact ⟨_, (false), (by first | rfl | (simp; done) | (simp [*]; done)), H', ⟨by first | omega | exact Nat.le_refl _⟩, ⟨qB⟩⟩
 case rest =>
  clear HC2
  try clear c1
  try clear p2
  try clear c3
  try clear c3b0
  try clear c3b1
  try clear c4
  try clear c4b0
  try clear c4b1
  try clear p5 p5
  try clear q5 q5
  try clear hx5
  try clear qi5
  obtain ⟨kq, x16_1, rfl, HA, HJ1, HB⟩ := hcut
  cases kq with
  | zero => exact absurd HA.out (by simp [whirligigref01_Number.j0])
  | succ kj1 =>
   have H := HA.out
   clear HA
   simp only [whirligigref01_Number.j0] at H
   have HC6 := Aside0.mk H
   clear H
   go_upto_if 16 with (fail)
   go_cut [4] (fun v4 wc => ∃ (kq : Nat) (x4_5 : ByteArray), v4 = .string x4_5 ∧ Aside0 (whirligigref01_Number.j1 kq a0 x4_5 = some (r1, r2)) ∧ Aside0 (kq ≤ kj1) ∧ Aside0 (Below w.heap.size w wc))
   case first =>
    have H := HC6.out
    clear HC6
    by_cases c7 : x16_1 = true
    ·subst c7
     rw [if_pos rfl] at H
     by_cases c8 : 1 ≤ (a0.size : Int)
     ·rw [if_pos c8] at H
      have c8b0 := eq_true c8
      have c8b1 := decide_eq_true c8
      clear c8
      have H' := Aside0.mk H
      clear H
      go_wp2
      go_meet
      case rel => exact ⟨_, (a0.extract 1 a0.size), (by first | rfl | (simp; done) | (simp [*]; done)), H', ⟨by have := HJ1.out; first | omega | exact Nat.le_refl _⟩, ⟨qB⟩⟩
     ·rw [if_neg c8] at H
      exact absurd H (by simp)
    ·replace c7 := Bool.eq_false_iff.mpr c7
     subst c7
     rw [if_neg (show ¬ (false = true) by decide)] at H
     have H' := Aside0.mk H
     clear H
     go_wp2
     go_meet
     case rel => exact ⟨_, (a0), (by first | rfl | (simp; done) | (simp [*]; done)), H', ⟨by have := HJ1.out; first | omega | exact Nat.le_refl _⟩, ⟨qB⟩⟩
   case rest =>
    clear HC6
    try clear c1
    try clear p2 p2
    try clear c3
    try clear c3b0
    try clear c3b1
    try clear c4
    try clear c4b0
    try clear c4b1
    try clear p5 p5
    try clear q5 q5
    try clear hx5
    try clear qi5
    try clear c7
    try clear c8
    try clear c8b0
    try clear c8b1
    obtain ⟨kq, x4_5, rfl, HA, HJ5, HB⟩ := hcut
    cases kq with
    | zero => exact absurd HA.out (by simp [whirligigref01_Number.j1])
    | succ kj5 =>
     have H := HA.out
     clear HA
     simp only [whirligigref01_Number.j1] at H
     have HC9 := Aside0.mk H
     clear H
     go_upto_region 4 with (fail)
     go_cut [26] (fun v26 wc => ∃ (kq : Nat) (x26_8 : Bool), v26 = .bool x26_8 ∧ Aside0 (whirligigref01_Number.j2 kq a0 x4_5 x26_8 = some (r1, r2)) ∧ Aside0 (kq ≤ kj5) ∧ Aside0 (Below w.heap.size w wc))
     case first =>
      have H := HC9.out
      clear HC9
      by_cases c10 : (x4_5.size : Int) = 0
      ·rw [if_pos c10] at H
       have c10b0 := beq_iff_eq.mpr c10
       have c10b1 := bne_eq_false_iff_eq.mpr c10
       clear c10
       (first | rw [c10b0] | (simp only [i64_w, i32_w]; rw [c10b0]) | skip)
       have H' := Aside0.mk H
       clear H
       go_wp2
       go_meet
       case rel => exact ⟨_, (true), (by first | rfl | (simp; done) | (simp [*]; done)), H', ⟨by have := HJ1.out; have := HJ5.out; first | omega | exact Nat.le_refl _⟩, ⟨qB⟩⟩
      ·rw [if_neg c10] at H
       have c10b0 := beq_eq_false_iff_ne.mpr c10
       have c10b1 := bne_iff_ne.mpr c10
       (first | rw [c10b0] | (simp only [i64_w, i32_w]; rw [c10b0]) | skip)
       have H' := Aside0.mk H
       clear H
       go_wp2
       go_meet
       case rel => exact ⟨_, (decide ((x4_5.size : Int) > 19)), (by first | rfl | (simp; done) | (simp [*]; done)), H', ⟨by have := HJ1.out; have := HJ5.out; first | omega | exact Nat.le_refl _⟩, ⟨qB⟩⟩
     case rest =>
      clear HC9
      try clear c1
      try clear p2 p2
      try clear c3
      try clear c3b0
      try clear c3b1
      try clear c4
      try clear c4b0
      try clear c4b1
      try clear p5 p5
      try clear q5 q5
      try clear hx5
      try clear qi5
      try clear c7
      try clear c8
      try clear c8b0
      try clear c8b1
      try clear c10
      try clear c10b0
      try clear c10b1
      obtain ⟨kq, x26_8, rfl, HA, HJ8, HB⟩ := hcut
      cases kq with
      | zero => exact absurd HA.out (by simp [whirligigref01_Number.j2])
      | succ kj8 =>
       have H := HA.out
       clear HA
       simp only [whirligigref01_Number.j2] at H
       by_cases c11 : x26_8 = true
       ·subst c11
        rw [if_pos rfl] at H
        simp only [Option.some.injEq, Prod.mk.injEq] at H
        obtain ⟨rfl, rfl⟩ := H
        go_wp2
        go_ret2
        exact ⟨qR, qB⟩
       ·replace c11 := Bool.eq_false_iff.mpr c11
        subst c11
        rw [if_neg (show ¬ (false = true) by decide)] at H
        have H' := Aside0.mk H
        clear H
        go_wp2
        go_loopg [5, 6] kj8 (fun kq v5 v6 w' => ∃ (x5_4 : Int) (x6_4 : Int), v5 = .int .i64 x5_4 ∧ v6 = .int .i64 x6_4 ∧ Aside0 (whirligigref01_Number.l0 kq a0 x4_5 x5_4 x6_4 = some (r1, r2)) ∧ Aside0 (kq ≤ kj8) ∧ Aside0 (Below w.heap.size w w'))
        case atStart => exact ⟨(0), (0), (by first | rfl | (simp; done) | (simp [*]; done)), (by first | rfl | (simp; done) | (simp [*]; done)), H', ⟨Nat.le_refl _⟩, ⟨qB⟩⟩
        case round =>
         clear H'
         try clear c1
         try clear p2 p2
         try clear c3
         try clear c3b0
         try clear c3b1
         try clear c4
         try clear c4b0
         try clear c4b1
         try clear p5 p5
         try clear q5 q5
         try clear hx5
         try clear qi5
         try clear c7
         try clear c8
         try clear c8b0
         try clear c8b1
         try clear c10
         try clear c10b0
         try clear c10b1
         try clear c11
         obtain ⟨x5_4, x6_4, rfl, rfl, HA, HK4, HB⟩ := hrel
         cases gk with
         | zero => exact absurd HA.out (by simp [whirligigref01_Number.l0])
         | succ k4 =>
          have H := HA.out
          clear HA
          simp only [whirligigref01_Number.l0] at H
          by_cases c12 : x6_4 < (x4_5.size : Int)
          ·rw [if_pos c12] at H
           have c12b0 := decide_eq_true c12
           clear c12
           have HC13 := Aside0.mk H
           clear H
           go_upto_region 10 with (fail)
           go_cut [42] (fun v42 wc => ∃ (kq : Nat) (x42_12 : Bool), v42 = .bool x42_12 ∧ Aside0 (whirligigref01_Number.j4 kq a0 x4_5 x5_4 x6_4 x42_12 = some (r1, r2)) ∧ Aside0 (kq ≤ k4) ∧ Aside0 (Below w.heap.size w wc))
           case first =>
            have H := HC13.out
            clear HC13
            by_cases c14 : 0 ≤ x6_4
            ·rw [if_pos c14] at H
             have c14b0 := decide_eq_true c14
             clear c14
             (first | rw [c14b0] | (simp only [i64_w, i32_w]; rw [c14b0]) | skip)
             by_cases c16 : (bt x4_5 x6_4) < 48
             ·rw [if_pos c16] at H
              have c16b0 := decide_eq_true c16
              clear c16
              have H' := Aside0.mk H
              clear H
              have p15 : 0 ≤ (x6_4 : Int) := qD
              have q15 : x6_4 < (x4_5.size : Int) := qD
              have hx15 := bt_at x4_5 x6_4
              replace p15 := eq_true p15
              replace q15 := eq_true q15
              go_wp2
              go_meet
              case rel => exact ⟨_, (true), (by first | rfl | (simp; done) | (simp [*]; done)), H', ⟨by have := HJ1.out; have := HJ5.out; have := HJ8.out; have := HK4.out; first | omega | exact Nat.le_refl _⟩, ⟨qB⟩⟩
             ·rw [if_neg c16] at H
              have c16b0 := decide_eq_false c16
              clear c16
              have H' := Aside0.mk H
              clear H
              have p15 : 0 ≤ (x6_4 : Int) := qD
              have q15 : x6_4 < (x4_5.size : Int) := qD
              have hx15 := bt_at x4_5 x6_4
              replace p15 := eq_true p15
              replace q15 := eq_true q15
              have p17 : 0 ≤ (x6_4 : Int) := qD
              have q17 : x6_4 < (x4_5.size : Int) := qD
              have hx17 := bt_at x4_5 x6_4
              replace p17 := eq_true p17
              replace q17 := eq_true q17
              go_wp2
              go_meet
              case rel => exact ⟨_, (decide ((bt x4_5 x6_4) > 57)), (by first | rfl | (simp; done) | (simp [*]; done)), H', ⟨by have := HJ1.out; have := HJ5.out; have := HJ8.out; have := HK4.out; first | omega | exact Nat.le_refl _⟩, ⟨qB⟩⟩
            ·rw [if_neg c14] at H
             exact absurd H (by simp)
           case rest =>
            clear HC13
            try clear c1
            try clear p1
            try clear q1
            try clear hx1
            try clear p2 p2
            try clear c3
            try clear c3b0
            try clear c3b1
            try clear c4
            try clear c4b0
            try clear c4b1
            try clear p5 p5
            try clear q5 q5
            try clear hx5
            try clear qi5
            try clear c7
            try clear c8
            try clear c8b0
            try clear c8b1
            try clear c10
            try clear c10b0
            try clear c10b1
            try clear c11
            try clear c12
            try clear c12b0
            try clear c13
            try clear c14
            try clear c14b0
            try clear p15 p15
            try clear q15 q15
            try clear hx15
            try clear c16
            try clear c16b0
            try clear p17 p17
            try clear q17 q17
            try clear hx17
            obtain ⟨kq, x42_12, rfl, HA, HJ12, HB⟩ := hcut
            cases kq with
            | zero => exact absurd HA.out (by simp [whirligigref01_Number.j4])
            | succ kj12 =>
             have H := HA.out
             clear HA
             simp only [whirligigref01_Number.j4] at H
             by_cases c18 : x42_12 = true
             ·subst c18
              rw [if_pos rfl] at H
              simp only [Option.some.injEq, Prod.mk.injEq] at H
              obtain ⟨rfl, rfl⟩ := H
              go_wp2
              go_ret2
              exact ⟨qR, qB⟩
             ·replace c18 := Bool.eq_false_iff.mpr c18
              subst c18
              rw [if_neg (show ¬ (false = true) by decide)] at H
              by_cases c19 : 0 ≤ x6_4
              ·rw [if_pos c19] at H
               have c19b0 := decide_eq_true c19
               clear c19
               by_cases c20 : x6_4 < (x4_5.size : Int)
               ·rw [if_pos c20] at H
                have c20b0 := decide_eq_true c20
                clear c20
                by_cases c22 : x5_4 < (Int.tdiv ((-9223372036854775808) + (((bt x4_5 x6_4) - 48) % 256)) 10)
                ·rw [if_pos c22] at H
                 have c22b0 := decide_eq_true c22
                 clear c22
                 simp only [Option.some.injEq, Prod.mk.injEq] at H
                 obtain ⟨rfl, rfl⟩ := H
                 have p21 : 0 ≤ (x6_4 : Int) := qD
                 have q21 : x6_4 < (x4_5.size : Int) := qD
                 have hx21 := bt_at x4_5 x6_4
                 replace p21 := eq_true p21
                 replace q21 := eq_true q21
                 go_wp2
                 go_ret2
                 exact ⟨qR, qB⟩
                ·rw [if_neg c22] at H
                 have c22b0 := decide_eq_false c22
                 clear c22
                 have H' := Aside0.mk H
                 clear H
                 have p21 : 0 ≤ (x6_4 : Int) := qD
                 have q21 : x6_4 < (x4_5.size : Int) := qD
                 have hx21 := bt_at x4_5 x6_4
                 replace p21 := eq_true p21
                 replace q21 := eq_true q21
                 go_wp2
                 go_roundg kj12
                 case measure => have := HJ1.out; have := HJ5.out; have := HJ8.out; have := HK4.out; have := HJ12.out; omega
                 case rel => exact ⟨(wrap64 ((wrap64 (10 * x5_4)) - (((bt x4_5 x6_4) - 48) % 256))), (wrap64 (x6_4 + 1)), (by first | rfl | (simp; done) | (simp [*]; done)), (by first | rfl | (simp; done) | (simp [*]; done)), H', ⟨by have := HJ1.out; have := HJ5.out; have := HJ8.out; have := HK4.out; have := HJ12.out; omega⟩, ⟨qB⟩⟩
               ·rw [if_neg c20] at H
                exact absurd H (by simp)
              ·rw [if_neg c19] at H
               exact absurd H (by simp)
          ·rw [if_neg c12] at H
           have c12b0 := decide_eq_false c12
           clear c12
           by_cases c23 : (x4_5.size : Int) = (a0.size : Int)
           ·rw [if_pos c23] at H
            have c23b0 := beq_iff_eq.mpr c23
            have c23b1 := bne_eq_false_iff_eq.mpr c23
            have c23b2 : (x4_5.size == a0.size) = true := by first | simpa using c23 | (simp at c23 ⊢; omega)
            clear c23
            by_cases c24 : x5_4 = (-9223372036854775808)
            ·rw [if_pos c24] at H
             have c24b0 := beq_iff_eq.mpr c24
             have c24b1 := bne_eq_false_iff_eq.mpr c24
             clear c24
             simp only [Option.some.injEq, Prod.mk.injEq] at H
             obtain ⟨rfl, rfl⟩ := H
             go_wp2
             go_ret2
             exact ⟨qR, qB⟩
            ·rw [if_neg c24] at H
             have c24b0 := beq_eq_false_iff_ne.mpr c24
             have c24b1 := bne_iff_ne.mpr c24
             replace H := Option.bind_eq_some_iff.mp H
             obtain ⟨t178, A250, H⟩ := H
             (try dsimp -simprocs only at H)
             have A25 := Aside0.mk A250
             clear A250
             simp only [Option.some.injEq, Prod.mk.injEq] at H
             obtain ⟨rfl, rfl⟩ := H
             go_wp2_with (first | (refine gl (some 68) #[.int .i64 (wrap64 (-x5_4))] Tryd.func154 ?_; (with_reducible refine (whirligigref01_Digits.calls k4 (wrap64 (-x5_4)) t178 _ A25.out).mono ?_); rintro e w26 ⟨rfl, hb⟩; refine ⟨_, rfl, ?_⟩; replace HB := bst hb; (try clear hb)))
             go_ret2
             exact ⟨qR, qB⟩
           ·rw [if_neg c23] at H
            have c23b0 := beq_eq_false_iff_ne.mpr c23
            have c23b1 := bne_iff_ne.mpr c23
            have c23b2 : (x4_5.size == a0.size) = false := by first | simpa using c23 | (simp at c23 ⊢; omega)
            replace H := Option.bind_eq_some_iff.mp H
            obtain ⟨t179, A270, H⟩ := H
            (try dsimp -simprocs only at H)
            have A27 := Aside0.mk A270
            clear A270
            simp only [Option.some.injEq, Prod.mk.injEq] at H
            obtain ⟨rfl, rfl⟩ := H
            go_wp2_with (first | (refine gl (some 68) #[.int .i64 x5_4] Tryd.func154 ?_; (with_reducible refine (whirligigref01_Digits.calls k4 x5_4 t179 _ A27.out).mono ?_); rintro e w28 ⟨rfl, hb⟩; refine ⟨_, rfl, ?_⟩; replace HB := bst hb; (try clear hb)))
            go_ret2
            exact ⟨qR, qB⟩
end Go.Proofs.YtbngfhlciebeeaaDoor.L
end
