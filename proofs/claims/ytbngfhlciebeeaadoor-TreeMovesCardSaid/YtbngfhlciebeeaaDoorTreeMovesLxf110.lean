/- Printed and hand-written steps towards the row (TreeMoves), those that it reaches. -/
import Derived.Test.YtbngfhlciebeeaaDoorTreeMovesG4
import Derived.Test.YtbngfhlciebeeaaDoorTreeMovesG10
namespace Go.Proofs.YtbngfhlciebeeaaDoor.L
open Go.RowKit Go.Proofs.YtbngfhlciebeeaaDoorW.PrintWords Go.Proofs.YtbngfhlciebeeaaDoorW.PrintLast Go.Proofs.YtbngfhlciebeeaaDoorW.PrintMore
attribute [local go_sem] max2_int min2_int max_two min_two max_three min_three max_four min_four   -- for this text's walks alone
set_option linter.unusedVariables false
set_option linter.unusedSimpArgs false
mutual
def whirligigref02_number.j1 : Nat → ByteArray → Int → Int → Option (Int × ByteArray × Int × Int × Int × Int)
 | 0, _, _, _ => none
 | k + 1, x0, x1, x7 => if 0 ≤ x1 then (if x1 < (x0.size : Int) then (if (bt x0 x1) = 48 then (whirligigref02_number.j2 k x0 x1 x7 (decide (x7 > (wrap64 (x1 + 1))))) else (whirligigref02_number.j2 k x0 x1 x7 false)) else (none)) else (none)
def whirligigref02_number.j2 : Nat → ByteArray → Int → Int → Bool → Option (Int × ByteArray × Int × Int × Int × Int)
 | 0, _, _, _, _ => none
 | k + 1, x0, x1, x7, x38 => if x38 = true then (some (0, (⟨#[]⟩ : ByteArray), 0, 0, x1, 11)) else (if 0 ≤ x1 then (if x1 ≤ x7 then (if x7 ≤ (x0.size : Int) then ((whirligigref01_Number.f k (x0.extract (x1 : Int).toNat (x7 : Int).toNat)).bind fun bt181 => (if bt181.2 = true then (some (3, x0.extract (x1 : Int).toNat (x7 : Int).toNat, bt181.1, x1, x7, 0)) else (some (0, (⟨#[]⟩ : ByteArray), 0, 0, x1, 21)))) else (none)) else (none)) else (none))
def whirligigref02_number.l0 : Nat → ByteArray → Int → Int → Option (Int × ByteArray × Int × Int × Int × Int)
 | 0, _, _, _ => none
 | k + 1, x0, x1, x7 => if x7 < (x0.size : Int) then (if 0 ≤ x7 then (if (bt x0 x7) ≥ 48 then (if (bt x0 x7) ≤ 57 then (whirligigref02_number.l0 k x0 x1 (wrap64 (x7 + 1))) else (whirligigref02_number.j1 k x0 x1 x7)) else (whirligigref02_number.j1 k x0 x1 x7)) else (none)) else (whirligigref02_number.j1 k x0 x1 x7)
end
def whirligigref02_number.f (k : Nat) (a0 : ByteArray) (a1 : Int) : Option (Int × ByteArray × Int × Int × Int × Int) := whirligigref02_number.l0 k a0 a1 a1
set_option maxHeartbeats 8000000 in
set_option maxRecDepth 100000 in
theorem whirligigref02_number.calls (k : Nat) (a0 : ByteArray) (a1 : Int) (r1 : Int) (r2 : ByteArray) (r3 : Int) (r4 : Int) (r5 : Int) (r6 : Int) (w : World) (h : whirligigref02_number.f k a0 a1 = some (r1, r2, r3, r4, r5, r6)) :
  Calls Tryd.prog 110 #[.string a0, .int .i64 a1] w fun e w' => e = .returned (.tuple #[.agg #[.int .i64 r1, .string r2, .int .i64 r3, .int .i64 r4], .int .i64 r5, .int .i64 r6]) ∧ Below w.heap.size w w' := by
 have hu31 := Tryd.underlying31
 have HB := Aside0.mk (Below.refl w.heap.size w)
 have H : (whirligigref02_number.l0 k a0 a1 a1) = some (r1, r2, r3, r4, r5, r6) := h
 clear h
 have HC3 := Aside0.mk H
 clear H
 go_enter Tryd.func110, Tryd.ntmps110
 go_upto_block 0 with (first | (refine bx 4 #[.int .i64 0, .string (⟨#[]⟩ : ByteArray), .int .i64 0, .int .i64 0] 31 ?_; intro gb180 hg w4 hbox hb; have BK180 := Aside0.mk (hbox); have GW180 := geS hg; have GE180 := geS hg; replace HB := bst hb; clear hb hbox hg))
 (try simp only [Act.put, List.setIfInBounds_toArray, List.set_cons_zero, List.set_cons_succ])
 go_cut [7] (fun v7 wc => ∃ (kq : Nat) (x7_2 : Int), v7 = .int .i64 x7_2 ∧ Aside0 (whirligigref02_number.j1 kq a0 a1 x7_2 = some (r1, r2, r3, r4, r5, r6)) ∧ Aside0 (kq ≤ k) ∧ Aside0 (wc.heap[gb180]? = some (.cells #[.int .i64 0, .string (⟨#[]⟩ : ByteArray), .int .i64 0, .int .i64 0] 31 (0, 0))) ∧ Aside0 (Below w.heap.size w wc))
 case first =>
  have H := HC3.out
  clear HC3
  have H' := Aside0.mk H
  clear H
  go_wp2
  go_loopg [7] k (fun kq v7 w' => ∃ (x7_1 : Int), v7 = .int .i64 x7_1 ∧ Aside0 (whirligigref02_number.l0 kq a0 a1 x7_1 = some (r1, r2, r3, r4, r5, r6)) ∧ Aside0 (kq ≤ k) ∧ Aside0 (w'.heap[gb180]? = some (.cells #[.int .i64 0, .string (⟨#[]⟩ : ByteArray), .int .i64 0, .int .i64 0] 31 (0, 0))) ∧ Aside0 (Below w.heap.size w w'))
  case atStart => exact ⟨(a1), (by first | rfl | (simp; done) | (simp [*]; done)), H', ⟨Nat.le_refl _⟩, ⟨qK⟩, ⟨qB⟩⟩
  case round =>
   clear H'
   try clear c1
   try clear p2
   obtain ⟨x7_1, rfl, HA, HK1, BK180, HB⟩ := hrel
   cases gk with
   | zero => exact absurd HA.out (by simp [whirligigref02_number.l0])
   | succ k1 =>
    have H := HA.out
    clear HA
    simp only [whirligigref02_number.l0] at H
    by_cases c5 : x7_1 < (a0.size : Int)
    ·rw [if_pos c5] at H
     have c5b0 := decide_eq_true c5
     clear c5
     (first | rw [c5b0] | (simp only [i64_w, i32_w]; rw [c5b0]) | skip)
     by_cases c6 : 0 ≤ x7_1
     ·rw [if_pos c6] at H
      have c6b0 := decide_eq_true c6
      clear c6
      by_cases c8 : (bt a0 x7_1) ≥ 48
      ·rw [if_pos c8] at H
       have c8b0 := decide_eq_true c8
       clear c8
       by_cases c10 : (bt a0 x7_1) ≤ 57
       ·rw [if_pos c10] at H
        have c10b0 := decide_eq_true c10
        clear c10
        have H' := Aside0.mk H
        clear H
        have p7 : 0 ≤ (x7_1 : Int) := qD
        have q7 : x7_1 < (a0.size : Int) := qD
        have hx7 := bt_at a0 x7_1
        replace p7 := eq_true p7
        replace q7 := eq_true q7
        have p9 : 0 ≤ (x7_1 : Int) := qD
        have q9 : x7_1 < (a0.size : Int) := qD
        have hx9 := bt_at a0 x7_1
        replace p9 := eq_true p9
        replace q9 := eq_true q9
        go_wp2
        go_roundg k1
        case measure => have := HK1.out; omega
        case rel => exact ⟨(wrap64 (x7_1 + 1)), (by first | rfl | (simp; done) | (simp [*]; done)), H', ⟨by have := HK1.out; omega⟩, ⟨qK⟩, ⟨qB⟩⟩
       ·rw [if_neg c10] at H
        have c10b0 := decide_eq_false c10
        clear c10
        have H' := Aside0.mk H
        clear H
        have p7 : 0 ≤ (x7_1 : Int) := qD
        have q7 : x7_1 < (a0.size : Int) := qD
        have hx7 := bt_at a0 x7_1
        replace p7 := eq_true p7
        replace q7 := eq_true q7
        have p9 : 0 ≤ (x7_1 : Int) := qD
        have q9 : x7_1 < (a0.size : Int) := qD
        have hx9 := bt_at a0 x7_1
        replace p9 := eq_true p9
        replace q9 := eq_true q9
        go_wp2
        go_meet
        case rel => exact ⟨_, (x7_1), (by first | rfl | (simp; done) | (simp [*]; done)), H', ⟨by have := HK1.out; first | omega | exact Nat.le_refl _⟩, ⟨qK⟩, ⟨qB⟩⟩
      ·rw [if_neg c8] at H
       have c8b0 := decide_eq_false c8
       clear c8
       have H' := Aside0.mk H
       clear H
       have p7 : 0 ≤ (x7_1 : Int) := qD
       have q7 : x7_1 < (a0.size : Int) := qD
       have hx7 := bt_at a0 x7_1
       replace p7 := eq_true p7
       replace q7 := eq_true q7
       go_wp2
       go_meet
       case rel => exact ⟨_, (x7_1), (by first | rfl | (simp; done) | (simp [*]; done)), H', ⟨by have := HK1.out; first | omega | exact Nat.le_refl _⟩, ⟨qK⟩, ⟨qB⟩⟩
     ·rw [if_neg c6] at H
      exact absurd H (by simp)
    ·rw [if_neg c5] at H
     have c5b0 := decide_eq_false c5
     clear c5
     (first | rw [c5b0] | (simp only [i64_w, i32_w]; rw [c5b0]) | skip)
     have H' := Aside0.mk H
     clear H
     go_wp2
     go_meet
     case rel => exact ⟨_, (x7_1), (by first | rfl | (simp; done) | (simp [*]; done)), H', ⟨by have := HK1.out; first | omega | exact Nat.le_refl _⟩, ⟨qK⟩, ⟨qB⟩⟩
 case rest =>
  clear HC3
  try clear c1
  try clear p2 p2
  try clear c5
  try clear c5b0
  try clear c6
  try clear c6b0
  try clear p6
  try clear p7 p7
  try clear q7 q7
  try clear hx7
  try clear c8
  try clear c8b0
  try clear p9 p9
  try clear q9 q9
  try clear hx9
  try clear c10
  try clear c10b0
  obtain ⟨kq, x7_2, rfl, HA, HJ2, BK180, HB⟩ := hcut
  cases kq with
  | zero => exact absurd HA.out (by simp [whirligigref02_number.j1])
  | succ kj2 =>
   have H := HA.out
   clear HA
   simp only [whirligigref02_number.j1] at H
   have HC11 := Aside0.mk H
   clear H
   go_upto_region 4 with (fail)
   go_cut [38] (fun v38 wc => ∃ (kq : Nat) (x38_10 : Bool), v38 = .bool x38_10 ∧ Aside0 (whirligigref02_number.j2 kq a0 a1 x7_2 x38_10 = some (r1, r2, r3, r4, r5, r6)) ∧ Aside0 (kq ≤ kj2) ∧ Aside0 (wc.heap[gb180]? = some (.cells #[.int .i64 0, .string (⟨#[]⟩ : ByteArray), .int .i64 0, .int .i64 0] 31 (0, 0))) ∧ Aside0 (Below w.heap.size w wc))
   case first =>
    have H := HC11.out
    clear HC11
    by_cases c12 : 0 ≤ a1
    ·rw [if_pos c12] at H
     have c12b0 := decide_eq_true c12
     clear c12
     (first | rw [c12b0] | (simp only [i64_w, i32_w]; rw [c12b0]) | skip)
     by_cases c13 : a1 < (a0.size : Int)
     ·rw [if_pos c13] at H
      have c13b0 := decide_eq_true c13
      clear c13
      by_cases c15 : (bt a0 a1) = 48
      ·rw [if_pos c15] at H
       have c15b0 := beq_iff_eq.mpr c15
       have c15b1 := bne_eq_false_iff_eq.mpr c15
       clear c15
       have H' := Aside0.mk H
       clear H
       have p14 : 0 ≤ (a1 : Int) := qD
       have q14 : a1 < (a0.size : Int) := qD
       have hx14 := bt_at a0 a1
       replace p14 := eq_true p14
       replace q14 := eq_true q14
       go_wp2
       go_meet
       case rel => exact ⟨_, (decide (x7_2 > (wrap64 (a1 + 1)))), (by first | rfl | (simp; done) | (simp [*]; done)), H', ⟨by have := HJ2.out; first | omega | exact Nat.le_refl _⟩, ⟨qK⟩, ⟨qB⟩⟩
      ·rw [if_neg c15] at H
       have c15b0 := beq_eq_false_iff_ne.mpr c15
       have c15b1 := bne_iff_ne.mpr c15
       have H' := Aside0.mk H
       clear H
       have p14 : 0 ≤ (a1 : Int) := qD
       have q14 : a1 < (a0.size : Int) := qD
       have hx14 := bt_at a0 a1
       replace p14 := eq_true p14
       replace q14 := eq_true q14
       go_wp2
       go_meet
       case rel => exact ⟨_, (false), (by first | rfl | (simp; done) | (simp [*]; done)), H', ⟨by have := HJ2.out; first | omega | exact Nat.le_refl _⟩, ⟨qK⟩, ⟨qB⟩⟩
     ·rw [if_neg c13] at H
      exact absurd H (by simp)
    ·rw [if_neg c12] at H
     exact absurd H (by simp)
   case rest =>
    clear HC11
    try clear c1
    try clear p1
    try clear q1
    try clear hx1
    try clear p2 p2
    try clear c5
    try clear c5b0
    try clear c6
    try clear c6b0
    try clear p6 p6
    try clear p7 p7
    try clear q7 q7
    try clear hx7
    try clear c8
    try clear c8b0
    try clear p9 p9
    try clear q9 q9
    try clear hx9
    try clear c10
    try clear c10b0
    try clear c11
    try clear c12
    try clear c12b0
    try clear c13
    try clear c13b0
    try clear p14 p14
    try clear q14 q14
    try clear hx14
    try clear c15
    try clear c15b0
    try clear c15b1
    obtain ⟨kq, x38_10, rfl, HA, HJ10, BK180, HB⟩ := hcut
    cases kq with
    | zero => exact absurd HA.out (by simp [whirligigref02_number.j2])
    | succ kj10 =>
     have H := HA.out
     clear HA
     simp only [whirligigref02_number.j2] at H
     by_cases c16 : x38_10 = true
     ·subst c16
      rw [if_pos rfl] at H
      simp only [Option.some.injEq, Prod.mk.injEq] at H
      obtain ⟨rfl, rfl, rfl, rfl, rfl, rfl⟩ := H
      obtain ⟨hcz17_0, hcz17_1, hcz17_2, hcz17_3, hfz17_0, hfz17_1, hfz17_2, hfz17_3⟩ := cells4 BK180.out
      go_wp2
      refine bodyPost_ret (results_ctt rfl _ _ gb180 31 #[.int .i64 0, .string (⟨#[]⟩ : ByteArray), .int .i64 0, .int .i64 0] (0, 0) _ rfl qP Tryd.underlying31 rfl (by kernel_rfl)) rfl ?_
      exact ⟨qR, qB⟩
     ·replace c16 := Bool.eq_false_iff.mpr c16
      subst c16
      rw [if_neg (show ¬ (false = true) by decide)] at H
      by_cases c18 : 0 ≤ a1
      ·rw [if_pos c18] at H
       have c18b0 := eq_true c18
       have c18b1 := decide_eq_true c18
       clear c18
       by_cases c19 : a1 ≤ x7_2
       ·rw [if_pos c19] at H
        have c19b0 := eq_true c19
        have c19b1 := decide_eq_true c19
        clear c19
        by_cases c20 : x7_2 ≤ (a0.size : Int)
        ·rw [if_pos c20] at H
         have c20b0 := eq_true c20
         have c20b1 := decide_eq_true c20
         clear c20
         replace H := Option.bind_eq_some_iff.mp H
         obtain ⟨⟨t181, t182⟩, A210, H⟩ := H
         (try dsimp -simprocs only at H)
         have A21 := Aside0.mk A210
         clear A210
         by_cases c22 : t182 = true
         ·subst c22
          rw [if_pos rfl] at H
          have c23b0 := eq_true (qD : 0 ≤ a1)
          have c24b0 := eq_true (qD : a1 ≤ x7_2)
          have c25b0 := eq_true (qD : x7_2 ≤ (a0.size : Int))
          simp only [Option.some.injEq, Prod.mk.injEq] at H
          obtain ⟨rfl, rfl, rfl, rfl, rfl, rfl⟩ := H
          go_wp2_with (first | (refine gl (some 46) #[.string (a0.extract (a1 : Int).toNat (x7_2 : Int).toNat)] Tryd.func135 ?_; (with_reducible refine (whirligigref01_Number.calls kj10 (a0.extract (a1 : Int).toNat (x7_2 : Int).toNat) t181 true _ A21.out).mono ?_); rintro e w26 ⟨rfl, hb⟩; refine ⟨_, rfl, ?_⟩; replace BK180 := kb gb180 hb; replace HB := bst hb; (try clear hb); obtain ⟨hcz27_0, hcz27_1, hcz27_2, hcz27_3, hfz27_0, hfz27_1, hfz27_2, hfz27_3⟩ := cells4 BK180.out))
          refine bodyPost_ret (results_ctt rfl _ _ gb180 31 #[.int .i64 3, .string (a0.extract (a1 : Int).toNat (x7_2 : Int).toNat), .int .i64 t181, .int .i64 a1] (0, 0) _ rfl qP Tryd.underlying31 rfl (by kernel_rfl)) rfl ?_
          exact ⟨qR, qB⟩
         ·replace c22 := Bool.eq_false_iff.mpr c22
          subst c22
          rw [if_neg (show ¬ (false = true) by decide)] at H
          simp only [Option.some.injEq, Prod.mk.injEq] at H
          obtain ⟨rfl, rfl, rfl, rfl, rfl, rfl⟩ := H
          go_wp2_with (first | (refine gl (some 46) #[.string (a0.extract (a1 : Int).toNat (x7_2 : Int).toNat)] Tryd.func135 ?_; (with_reducible refine (whirligigref01_Number.calls kj10 (a0.extract (a1 : Int).toNat (x7_2 : Int).toNat) t181 false _ A21.out).mono ?_); rintro e w28 ⟨rfl, hb⟩; refine ⟨_, rfl, ?_⟩; replace BK180 := kb gb180 hb; replace HB := bst hb; (try clear hb); obtain ⟨hcz29_0, hcz29_1, hcz29_2, hcz29_3, hfz29_0, hfz29_1, hfz29_2, hfz29_3⟩ := cells4 BK180.out))
          refine bodyPost_ret (results_ctt rfl _ _ gb180 31 #[.int .i64 0, .string (⟨#[]⟩ : ByteArray), .int .i64 0, .int .i64 0] (0, 0) _ rfl qP Tryd.underlying31 rfl (by kernel_rfl)) rfl ?_
          exact ⟨qR, qB⟩
        ·rw [if_neg c20] at H
         exact absurd H (by simp)
       ·rw [if_neg c19] at H
        exact absurd H (by simp)
      ·rw [if_neg c18] at H
       exact absurd H (by simp)
def whirligigref01_Plain.l0 : Nat → ByteArray → Int → Option (Bool)
 | 0, _, _ => none
 | k + 1, x0, x3 => if x3 < (x0.size : Int) then (if 0 ≤ x3 then (if (bt x0 x3) < 32 then (some false) else (if (bt x0 x3) > 126 then (some false) else (if (bt x0 x3) = 39 then (some false) else (whirligigref01_Plain.l0 k x0 (wrap64 (x3 + 1)))))) else (none)) else (some true)
def whirligigref01_Plain.f (k : Nat) (a0 : ByteArray) : Option (Bool) := if (a0.size : Int) > 48 then (some false) else (whirligigref01_Plain.l0 k a0 0)
set_option maxHeartbeats 8000000 in
set_option maxRecDepth 100000 in
theorem whirligigref01_Plain.calls (k : Nat) (a0 : ByteArray) (r : Bool) (w : World) (h : whirligigref01_Plain.f k a0 = some r) :
  Calls Tryd.prog 122 #[.string a0] w fun e w' => e = .returned (.bool r) ∧ Drawn0 w w' := by
 have H : (if (a0.size : Int) > 48 then (some false) else (whirligigref01_Plain.l0 k a0 0)) = some r := h
 clear h
 by_cases c2 : (a0.size : Int) > 48
 ·rw [if_pos c2] at H
  have c2b0 := decide_eq_true c2
  have c2b1 : decide (48 < a0.size) = true := decide_eq_true (by omega)
  clear c2
  obtain rfl := Option.some.inj H
  go_enter Tryd.func122, Tryd.ntmps122
  go_wp2
  go_ret
  exact ⟨by first | rfl | (simp; done) | (simp [*]; done), by repeat (first | exact Drawn0.refl _ | apply Drawn0.step)⟩
 ·rw [if_neg c2] at H
  have c2b0 := decide_eq_false c2
  have c2b1 : decide (48 < a0.size) = false := decide_eq_false (by omega)
  clear c2
  have H' := Aside0.mk H
  clear H
  go_enter Tryd.func122, Tryd.ntmps122
  go_wp2
  go_loopg [3] k (fun kq v3 w' => ∃ (x3_1 : Int), v3 = .int .i64 x3_1 ∧ Aside0 (whirligigref01_Plain.l0 kq a0 x3_1 = some r) ∧ Aside0 (kq ≤ k) ∧ Drawn0 w w')
  case atStart => exact ⟨(0), (by first | rfl | (simp; done) | (simp [*]; done)), H', ⟨Nat.le_refl _⟩, by repeat (first | exact Drawn0.refl _ | apply Drawn0.step)⟩
  case round =>
   clear H'
   try clear c1
   try clear c2
   try clear c2b0
   try clear c2b1
   try clear p2
   obtain ⟨x3_1, rfl, HA, HK1, ⟨m1, rfl⟩⟩ := hrel
   cases gk with
   | zero => exact absurd HA.out (by simp [whirligigref01_Plain.l0])
   | succ k1 =>
    have H := HA.out
    clear HA
    simp only [whirligigref01_Plain.l0] at H
    by_cases c3 : x3_1 < (a0.size : Int)
    ·rw [if_pos c3] at H
     have c3b0 := decide_eq_true c3
     clear c3
     by_cases c4 : 0 ≤ x3_1
     ·rw [if_pos c4] at H
      have c4b0 := decide_eq_true c4
      clear c4
      by_cases c6 : (bt a0 x3_1) < 32
      ·rw [if_pos c6] at H
       have c6b0 := decide_eq_true c6
       clear c6
       obtain rfl := Option.some.inj H
       have p5 : 0 ≤ (x3_1 : Int) := qD
       have q5 : x3_1 < (a0.size : Int) := qD
       have hx5 := bt_at a0 x3_1
       replace p5 := eq_true p5
       replace q5 := eq_true q5
       go_wp2
       go_ret
       exact ⟨by first | rfl | (simp; done) | (simp [*]; done), by repeat (first | exact Drawn0.refl _ | apply Drawn0.step)⟩
      ·rw [if_neg c6] at H
       have c6b0 := decide_eq_false c6
       clear c6
       by_cases c8 : (bt a0 x3_1) > 126
       ·rw [if_pos c8] at H
        have c8b0 := decide_eq_true c8
        clear c8
        obtain rfl := Option.some.inj H
        have p5 : 0 ≤ (x3_1 : Int) := qD
        have q5 : x3_1 < (a0.size : Int) := qD
        have hx5 := bt_at a0 x3_1
        replace p5 := eq_true p5
        replace q5 := eq_true q5
        have p7 : 0 ≤ (x3_1 : Int) := qD
        have q7 : x3_1 < (a0.size : Int) := qD
        have hx7 := bt_at a0 x3_1
        replace p7 := eq_true p7
        replace q7 := eq_true q7
        go_wp2
        go_ret
        exact ⟨by first | rfl | (simp; done) | (simp [*]; done), by repeat (first | exact Drawn0.refl _ | apply Drawn0.step)⟩
       ·rw [if_neg c8] at H
        have c8b0 := decide_eq_false c8
        clear c8
        by_cases c10 : (bt a0 x3_1) = 39
        ·rw [if_pos c10] at H
         have c10b0 := beq_iff_eq.mpr c10
         have c10b1 := bne_eq_false_iff_eq.mpr c10
         clear c10
         obtain rfl := Option.some.inj H
         have p5 : 0 ≤ (x3_1 : Int) := qD
         have q5 : x3_1 < (a0.size : Int) := qD
         have hx5 := bt_at a0 x3_1
         replace p5 := eq_true p5
         replace q5 := eq_true q5
         have p7 : 0 ≤ (x3_1 : Int) := qD
         have q7 : x3_1 < (a0.size : Int) := qD
         have hx7 := bt_at a0 x3_1
         replace p7 := eq_true p7
         replace q7 := eq_true q7
         have p9 : 0 ≤ (x3_1 : Int) := qD
         have q9 : x3_1 < (a0.size : Int) := qD
         have hx9 := bt_at a0 x3_1
         replace p9 := eq_true p9
         replace q9 := eq_true q9
         go_wp2
         go_ret
         exact ⟨by first | rfl | (simp; done) | (simp [*]; done), by repeat (first | exact Drawn0.refl _ | apply Drawn0.step)⟩
        ·rw [if_neg c10] at H
         have c10b0 := beq_eq_false_iff_ne.mpr c10
         have c10b1 := bne_iff_ne.mpr c10
         have H' := Aside0.mk H
         clear H
         have p5 : 0 ≤ (x3_1 : Int) := qD
         have q5 : x3_1 < (a0.size : Int) := qD
         have hx5 := bt_at a0 x3_1
         replace p5 := eq_true p5
         replace q5 := eq_true q5
         have p7 : 0 ≤ (x3_1 : Int) := qD
         have q7 : x3_1 < (a0.size : Int) := qD
         have hx7 := bt_at a0 x3_1
         replace p7 := eq_true p7
         replace q7 := eq_true q7
         have p9 : 0 ≤ (x3_1 : Int) := qD
         have q9 : x3_1 < (a0.size : Int) := qD
         have hx9 := bt_at a0 x3_1
         replace p9 := eq_true p9
         replace q9 := eq_true q9
         go_wp2
         go_roundg k1
         case measure => have := HK1.out; omega
         case rel => exact ⟨(wrap64 (x3_1 + 1)), (by first | rfl | (simp; done) | (simp [*]; done)), H', ⟨by have := HK1.out; omega⟩, by repeat (first | exact Drawn0.refl _ | apply Drawn0.step)⟩
     ·rw [if_neg c4] at H
      exact absurd H (by simp)
    ·rw [if_neg c3] at H
     have c3b0 := decide_eq_false c3
     clear c3
     obtain rfl := Option.some.inj H
     go_wp2
     go_ret
     exact ⟨by first | rfl | (simp; done) | (simp [*]; done), by repeat (first | exact Drawn0.refl _ | apply Drawn0.step)⟩
mutual
def whirligigref02_quote.j1 : Nat → ByteArray → Int → Int → Option (Int × ByteArray × Int × Int × Int × Int)
 | 0, _, _, _ => none
 | k + 1, x0, x1, x7 => if x7 ≥ (x0.size : Int) then (some (0, (⟨#[]⟩ : ByteArray), 0, 0, x1, 14)) else (if (wrap64 ((wrap64 (x7 - x1)) - 1)) > 48 then (some (0, (⟨#[]⟩ : ByteArray), 0, 0, x1, 15)) else (if 0 ≤ (wrap64 (x1 + 1)) then (if (wrap64 (x1 + 1)) ≤ x7 then (if x7 ≤ (x0.size : Int) then ((whirligigref01_Plain.f k (x0.extract ((wrap64 (x1 + 1)) : Int).toNat (x7 : Int).toNat)).bind fun t184 => (if t184 = true then (some (4, x0.extract ((wrap64 (x1 + 1)) : Int).toNat (x7 : Int).toNat, 0, x1, wrap64 (x7 + 1), 0)) else (some (0, (⟨#[]⟩ : ByteArray), 0, 0, x1, 11)))) else (none)) else (none)) else (none)))
def whirligigref02_quote.l0 : Nat → ByteArray → Int → Int → Option (Int × ByteArray × Int × Int × Int × Int)
 | 0, _, _, _ => none
 | k + 1, x0, x1, x7 => if x7 < (x0.size : Int) then (if 0 ≤ x7 then (if (bt x0 x7) = 39 then (whirligigref02_quote.j1 k x0 x1 x7) else (whirligigref02_quote.l0 k x0 x1 (wrap64 (x7 + 1)))) else (none)) else (whirligigref02_quote.j1 k x0 x1 x7)
end
def whirligigref02_quote.f (k : Nat) (a0 : ByteArray) (a1 : Int) : Option (Int × ByteArray × Int × Int × Int × Int) := whirligigref02_quote.l0 k a0 a1 (wrap64 (a1 + 1))
set_option maxHeartbeats 8000000 in
set_option maxRecDepth 100000 in
theorem whirligigref02_quote.calls (k : Nat) (a0 : ByteArray) (a1 : Int) (r1 : Int) (r2 : ByteArray) (r3 : Int) (r4 : Int) (r5 : Int) (r6 : Int) (w : World) (h : whirligigref02_quote.f k a0 a1 = some (r1, r2, r3, r4, r5, r6)) :
  Calls Tryd.prog 111 #[.string a0, .int .i64 a1] w fun e w' => e = .returned (.tuple #[.agg #[.int .i64 r1, .string r2, .int .i64 r3, .int .i64 r4], .int .i64 r5, .int .i64 r6]) ∧ Below w.heap.size w w' := by
 have hu31 := Tryd.underlying31
 have HB := Aside0.mk (Below.refl w.heap.size w)
 have H : (whirligigref02_quote.l0 k a0 a1 (wrap64 (a1 + 1))) = some (r1, r2, r3, r4, r5, r6) := h
 clear h
 have HC3 := Aside0.mk H
 clear H
 go_enter Tryd.func111, Tryd.ntmps111
 go_upto_block 0 with (first | (refine bx 4 #[.int .i64 0, .string (⟨#[]⟩ : ByteArray), .int .i64 0, .int .i64 0] 31 ?_; intro gb183 hg w4 hbox hb; have BK183 := Aside0.mk (hbox); have GW183 := geS hg; have GE183 := geS hg; replace HB := bst hb; clear hb hbox hg))
 (try simp only [Act.put, List.setIfInBounds_toArray, List.set_cons_zero, List.set_cons_succ])
 go_cut [7] (fun v7 wc => ∃ (kq : Nat) (x7_2 : Int), v7 = .int .i64 x7_2 ∧ Aside0 (whirligigref02_quote.j1 kq a0 a1 x7_2 = some (r1, r2, r3, r4, r5, r6)) ∧ Aside0 (kq ≤ k) ∧ Aside0 (wc.heap[gb183]? = some (.cells #[.int .i64 0, .string (⟨#[]⟩ : ByteArray), .int .i64 0, .int .i64 0] 31 (0, 0))) ∧ Aside0 (Below w.heap.size w wc))
 case first =>
  have H := HC3.out
  clear HC3
  have H' := Aside0.mk H
  clear H
  go_wp2
  go_loopg [7] k (fun kq v7 w' => ∃ (x7_1 : Int), v7 = .int .i64 x7_1 ∧ Aside0 (whirligigref02_quote.l0 kq a0 a1 x7_1 = some (r1, r2, r3, r4, r5, r6)) ∧ Aside0 (kq ≤ k) ∧ Aside0 (w'.heap[gb183]? = some (.cells #[.int .i64 0, .string (⟨#[]⟩ : ByteArray), .int .i64 0, .int .i64 0] 31 (0, 0))) ∧ Aside0 (Below w.heap.size w w'))
  case atStart => exact ⟨(wrap64 (a1 + 1)), (by first | rfl | (simp; done) | (simp [*]; done)), H', ⟨Nat.le_refl _⟩, ⟨qK⟩, ⟨qB⟩⟩
  case round =>
   clear H'
   try clear c1
   try clear p2
   obtain ⟨x7_1, rfl, HA, HK1, BK183, HB⟩ := hrel
   cases gk with
   | zero => exact absurd HA.out (by simp [whirligigref02_quote.l0])
   | succ k1 =>
    have H := HA.out
    clear HA
    simp only [whirligigref02_quote.l0] at H
    by_cases c5 : x7_1 < (a0.size : Int)
    ·rw [if_pos c5] at H
     have c5b0 := decide_eq_true c5
     clear c5
     (first | rw [c5b0] | (simp only [i64_w, i32_w]; rw [c5b0]) | skip)
     by_cases c6 : 0 ≤ x7_1
     ·rw [if_pos c6] at H
      have c6b0 := decide_eq_true c6
      clear c6
      by_cases c8 : (bt a0 x7_1) = 39
      ·rw [if_pos c8] at H
       have c8b0 := beq_iff_eq.mpr c8
       have c8b1 := bne_eq_false_iff_eq.mpr c8
       clear c8
       have H' := Aside0.mk H
       clear H
       have p7 : 0 ≤ (x7_1 : Int) := qD
       have q7 : x7_1 < (a0.size : Int) := qD
       have hx7 := bt_at a0 x7_1
       replace p7 := eq_true p7
       replace q7 := eq_true q7
       go_wp2
       go_meet
       case rel => exact ⟨_, (x7_1), (by first | rfl | (simp; done) | (simp [*]; done)), H', ⟨by have := HK1.out; first | omega | exact Nat.le_refl _⟩, ⟨qK⟩, ⟨qB⟩⟩
      ·rw [if_neg c8] at H
       have c8b0 := beq_eq_false_iff_ne.mpr c8
       have c8b1 := bne_iff_ne.mpr c8
       have H' := Aside0.mk H
       clear H
       have p7 : 0 ≤ (x7_1 : Int) := qD
       have q7 : x7_1 < (a0.size : Int) := qD
       have hx7 := bt_at a0 x7_1
       replace p7 := eq_true p7
       replace q7 := eq_true q7
       go_wp2
       go_roundg k1
       case measure => have := HK1.out; omega
       case rel => exact ⟨(wrap64 (x7_1 + 1)), (by first | rfl | (simp; done) | (simp [*]; done)), H', ⟨by have := HK1.out; omega⟩, ⟨qK⟩, ⟨qB⟩⟩
     ·rw [if_neg c6] at H
      exact absurd H (by simp)
    ·rw [if_neg c5] at H
     have c5b0 := decide_eq_false c5
     clear c5
     (first | rw [c5b0] | (simp only [i64_w, i32_w]; rw [c5b0]) | skip)
     have H' := Aside0.mk H
     clear H
     go_wp2
     go_meet
     case rel => exact ⟨_, (x7_1), (by first | rfl | (simp; done) | (simp [*]; done)), H', ⟨by have := HK1.out; first | omega | exact Nat.le_refl _⟩, ⟨qK⟩, ⟨qB⟩⟩
 case rest =>
  clear HC3
  try clear c1
  try clear p2 p2
  try clear c5
  try clear c5b0
  try clear c6
  try clear c6b0
  try clear p6
  try clear p7 p7
  try clear q7 q7
  try clear hx7
  try clear c8
  try clear c8b0
  try clear c8b1
  obtain ⟨kq, x7_2, rfl, HA, HJ2, BK183, HB⟩ := hcut
  cases kq with
  | zero => exact absurd HA.out (by simp [whirligigref02_quote.j1])
  | succ kj2 =>
   have H := HA.out
   clear HA
   simp only [whirligigref02_quote.j1] at H
   by_cases c9 : x7_2 ≥ (a0.size : Int)
   ·rw [if_pos c9] at H
    have c9b0 := decide_eq_true c9
    clear c9
    simp only [Option.some.injEq, Prod.mk.injEq] at H
    obtain ⟨rfl, rfl, rfl, rfl, rfl, rfl⟩ := H
    obtain ⟨hcz10_0, hcz10_1, hcz10_2, hcz10_3, hfz10_0, hfz10_1, hfz10_2, hfz10_3⟩ := cells4 BK183.out
    go_wp2
    refine bodyPost_ret (results_ctt rfl _ _ gb183 31 #[.int .i64 0, .string (⟨#[]⟩ : ByteArray), .int .i64 0, .int .i64 0] (0, 0) _ rfl qP Tryd.underlying31 rfl (by kernel_rfl)) rfl ?_
    exact ⟨qR, qB⟩
   ·rw [if_neg c9] at H
    have c9b0 := decide_eq_false c9
    clear c9
    by_cases c11 : (wrap64 ((wrap64 (x7_2 - a1)) - 1)) > 48
    ·rw [if_pos c11] at H
     have c11b0 := decide_eq_true c11
     clear c11
     simp only [Option.some.injEq, Prod.mk.injEq] at H
     obtain ⟨rfl, rfl, rfl, rfl, rfl, rfl⟩ := H
     obtain ⟨hcz12_0, hcz12_1, hcz12_2, hcz12_3, hfz12_0, hfz12_1, hfz12_2, hfz12_3⟩ := cells4 BK183.out
     go_wp2
     refine bodyPost_ret (results_ctt rfl _ _ gb183 31 #[.int .i64 0, .string (⟨#[]⟩ : ByteArray), .int .i64 0, .int .i64 0] (0, 0) _ rfl qP Tryd.underlying31 rfl (by kernel_rfl)) rfl ?_
     exact ⟨qR, qB⟩
    ·rw [if_neg c11] at H
     have c11b0 := decide_eq_false c11
     clear c11
     obtain ⟨ji13, hji13⟩ : ∃ j_ : Int, (wrap64 (a1 + 1)) = j_ := ⟨_, rfl⟩
     replace H : (if 0 ≤ (ji13) then (if (ji13) ≤ x7_2 then (if x7_2 ≤ (a0.size : Int) then ((whirligigref01_Plain.f kj2 (a0.extract ((ji13) : Int).toNat (x7_2 : Int).toNat)).bind fun t184 => (if t184 = true then (some (4, a0.extract ((ji13) : Int).toNat (x7_2 : Int).toNat, 0, a1, wrap64 (x7_2 + 1), 0)) else (some (0, (⟨#[]⟩ : ByteArray), 0, 0, a1, 11)))) else (none)) else (none)) else (none)) = some (r1, r2, r3, r4, r5, r6) := by first | (rw [hji13] at H; exact H) | (simp only [hji13] at H ⊢; exact H)
     have hji13w : (IntKind.i64.wrap (a1 + 1)) = ji13 := (i64_w _).trans hji13
     by_cases c14 : 0 ≤ (ji13)
     ·rw [if_pos c14] at H
      have c14b0 := eq_true c14
      have c14b1 := decide_eq_true c14
      clear c14
      by_cases c15 : (ji13) ≤ x7_2
      ·rw [if_pos c15] at H
       have c15b0 := eq_true c15
       have c15b1 := decide_eq_true c15
       clear c15
       by_cases c16 : x7_2 ≤ (a0.size : Int)
       ·rw [if_pos c16] at H
        have c16b0 := eq_true c16
        have c16b1 := decide_eq_true c16
        clear c16
        replace H := Option.bind_eq_some_iff.mp H
        obtain ⟨t184, A170, H⟩ := H
        (try dsimp -simprocs only at H)
        have A17 := Aside0.mk A170
        clear A170
        by_cases c18 : t184 = true
        ·subst c18
         rw [if_pos rfl] at H
         have c19b0 := eq_true (qD : 0 ≤ (ji13))
         have c20b0 := eq_true (qD : (ji13) ≤ x7_2)
         have c21b0 := eq_true (qD : x7_2 ≤ (a0.size : Int))
         simp only [Option.some.injEq, Prod.mk.injEq] at H
         obtain ⟨rfl, rfl, rfl, rfl, rfl, rfl⟩ := H
         go_wp2_with (first | ((with_reducible refine gate_callee (f := 122) rfl ?_); refine goesL_ (some 40) rfl rfl Tryd.func122 (by kernel_rfl) rfl #[.string (a0.extract ((ji13) : Int).toNat (x7_2 : Int).toNat)] rfl (by (try simp only [List.map_toArray, List.map_cons, List.map_nil]); first | done | (simp only [hji13]; rfl) | rfl | (simp only [List.length_drop, List.length_take]; rfl)) ?_; (with_reducible refine (whirligigref01_Plain.calls kj2 (a0.extract ((ji13) : Int).toNat (x7_2 : Int).toNat) true _ A17.out).mono ?_); rintro e w' ⟨rfl, ⟨nd, rfl⟩⟩; refine ⟨_, rfl, ?_⟩; (try (rw [drewN_self wc]; generalize hq_ : World.drewN wc _ = wc; have n0_ : Aside0 (wc.heap[gb183]? = some (.cells #[.int .i64 0, .string (⟨#[]⟩ : ByteArray), .int .i64 0, .int .i64 0] 31 (0, 0))) := ⟨by rw [← hq_]; exact qK⟩; have n1_ : Aside0 (Below w.heap.size w wc) := ⟨by rw [← hq_]; exact qB⟩; clear BK183 HB hq_; have BK183 := n0_; have HB := n1_; clear n0_ n1_)); obtain ⟨hcz22_0, hcz22_1, hcz22_2, hcz22_3, hfz22_0, hfz22_1, hfz22_2, hfz22_3⟩ := cells4 BK183.out))
         refine bodyPost_ret (results_ctt rfl _ _ gb183 31 #[.int .i64 4, .string (a0.extract ((ji13) : Int).toNat (x7_2 : Int).toNat), .int .i64 0, .int .i64 a1] (0, 0) _ rfl qP Tryd.underlying31 rfl (by kernel_rfl)) rfl ?_
         exact ⟨by first | rfl | (simp [errW_none, errW_some] <;> rfl) | (simp only [← hji13]; first | rfl | (simp [errW_none, errW_some] <;> rfl)) | (simp [*, errW_none, errW_some] <;> rfl), qB⟩
        ·replace c18 := Bool.eq_false_iff.mpr c18
         subst c18
         rw [if_neg (show ¬ (false = true) by decide)] at H
         simp only [Option.some.injEq, Prod.mk.injEq] at H
         obtain ⟨rfl, rfl, rfl, rfl, rfl, rfl⟩ := H
         go_wp2_with (first | ((with_reducible refine gate_callee (f := 122) rfl ?_); refine goesL_ (some 40) rfl rfl Tryd.func122 (by kernel_rfl) rfl #[.string (a0.extract ((ji13) : Int).toNat (x7_2 : Int).toNat)] rfl (by (try simp only [List.map_toArray, List.map_cons, List.map_nil]); first | done | (simp only [hji13]; rfl) | rfl | (simp only [List.length_drop, List.length_take]; rfl)) ?_; (with_reducible refine (whirligigref01_Plain.calls kj2 (a0.extract ((ji13) : Int).toNat (x7_2 : Int).toNat) false _ A17.out).mono ?_); rintro e w' ⟨rfl, ⟨nd, rfl⟩⟩; refine ⟨_, rfl, ?_⟩; (try (rw [drewN_self wc]; generalize hq_ : World.drewN wc _ = wc; have n0_ : Aside0 (wc.heap[gb183]? = some (.cells #[.int .i64 0, .string (⟨#[]⟩ : ByteArray), .int .i64 0, .int .i64 0] 31 (0, 0))) := ⟨by rw [← hq_]; exact qK⟩; have n1_ : Aside0 (Below w.heap.size w wc) := ⟨by rw [← hq_]; exact qB⟩; clear BK183 HB hq_; have BK183 := n0_; have HB := n1_; clear n0_ n1_)); obtain ⟨hcz23_0, hcz23_1, hcz23_2, hcz23_3, hfz23_0, hfz23_1, hfz23_2, hfz23_3⟩ := cells4 BK183.out))
         refine bodyPost_ret (results_ctt rfl _ _ gb183 31 #[.int .i64 0, .string (⟨#[]⟩ : ByteArray), .int .i64 0, .int .i64 0] (0, 0) _ rfl qP Tryd.underlying31 rfl (by kernel_rfl)) rfl ?_
         exact ⟨by first | rfl | (simp [errW_none, errW_some] <;> rfl) | (simp only [← hji13]; first | rfl | (simp [errW_none, errW_some] <;> rfl)) | (simp [*, errW_none, errW_some] <;> rfl), qB⟩
       ·rw [if_neg c16] at H
        exact absurd H (by simp)
      ·rw [if_neg c15] at H
       exact absurd H (by simp)
     ·rw [if_neg c14] at H
      exact absurd H (by simp)
end Go.Proofs.YtbngfhlciebeeaaDoor.L
