/- Printed and hand-written steps towards the row (EvalTyped), those that it reaches. -/
import Derived.Test.YtbngfhlciebeeaaDoorEvalTypedG22
import Derived.Test.YtbngfhlciebeeaaDoorEvalTypedG18
import Derived.Test.YtbngfhlciebeeaaDoorEvalTypedG3
import Derived.Test.YtbngfhlciebeeaaDoorEvalTypedG4
import Derived.Test.YtbngfhlciebeeaaDoorEvalTypedG15
import Derived.Test.YtbngfhlciebeeaaDoorEvalTypedGFind
section
namespace Go.Proofs.YtbngfhlciebeeaaDoor.Sp
set_option linter.unusedVariables false
set_option linter.unusedSimpArgs false
open Go.RowKit Go.Proofs.YtbngfhlciebeeaaDoorW.PrintWords Go.Proofs.YtbngfhlciebeeaaDoorW.PrintMore Go.Proofs.YtbngfhlciebeeaaDoor.L
abbrev R4 := Int × Int × ByteArray × Int
def ovR (r : Int) : R4 := if -9223372036854775808 ≤ r ∧ r ≤ 9223372036854775807 then (1, r, ⟨#[]⟩, 0) else (0, 0, ⟨#[]⟩, 21)
theorem ovR_in {r : Int} (h : -9223372036854775808 ≤ r ∧ r ≤ 9223372036854775807) : ovR r = (1, r, ⟨#[]⟩, 0) := if_pos h
theorem ovR_out {r : Int} (h : ¬ (-9223372036854775808 ≤ r ∧ r ≤ 9223372036854775807)) : ovR r = (0, 0, ⟨#[]⟩, 21) := if_neg h
def divR (a b : Int) : R4 := if b = 0 then (0, 0, ⟨#[]⟩, 22) else ovR (Int.tdiv a b)
def remR (a b : Int) : R4 := if b = 0 then (0, 0, ⟨#[]⟩, 22) else (1, Int.tmod a b, ⟨#[]⟩, 0)
theorem over_ok {n : Int} : val_over.f n false = some (1, n, ⟨#[]⟩, 0) := rfl
theorem over_no {n : Int} : val_over.f n true = some (0, 0, ⟨#[]⟩, 21) := rfl
theorem over_d {n r : Int} {p : Bool} (h : p = true → ¬ (-9223372036854775808 ≤ r ∧ r ≤ 9223372036854775807)) (h' : p = false → -9223372036854775808 ≤ r ∧ r ≤ 9223372036854775807 ∧ n = r) : val_over.f n p = some (ovR r) := by
  cases p with
  | true => rw [over_no, ovR_out (h rfl)]
  | false => obtain ⟨h1, h2, h3⟩ := h' rfl; rw [over_ok, ovR_in ⟨h1, h2⟩, h3]
theorem bind4 {o : Option R4} : (o.bind fun bt => (some (bt.1, bt.2.1, bt.2.2.1, bt.2.2.2) : Option R4)) = o := by cases o <;> rfl
section
variable {a b : Int}
theorem vAdd (ha : Opn.I64 a) (hb : Opn.I64 b) (k : Nat) : val_number.f k 6 a b = some (ovR (a + b)) := by
  unfold Opn.I64 at ha hb
  unfold val_number.f
  simp only [bind4]
  rw [if_pos trivial]
  have hw : (wrap64 (a + b) = a + b ∧ -9223372036854775808 ≤ a + b ∧ a + b ≤ 9223372036854775807) ∨ (wrap64 (a + b) = a + b - 18446744073709551616 ∧ a + b > 9223372036854775807) ∨ (wrap64 (a + b) = a + b + 18446744073709551616 ∧ a + b < -9223372036854775808) := by unfold wrap64; omega
  by_cases h1 : b > 0
  · rw [if_pos h1]
    by_cases h2 : wrap64 (a + b) < a
    · rw [if_pos h2]
      exact over_d (fun _ => by omega) (fun h => by cases h)
    · rw [if_neg h2, if_neg (by omega)]
      exact over_d (fun h => by cases h) (fun _ => by omega)
  · rw [if_neg h1]
    by_cases h2 : b < 0
    · rw [if_pos h2]
      exact over_d (fun h => by have := of_decide_eq_true h; omega) (fun h => by have := of_decide_eq_false h; omega)
    · rw [if_neg h2]
      exact over_d (fun h => by cases h) (fun _ => by omega)
theorem vSub (ha : Opn.I64 a) (hb : Opn.I64 b) (k : Nat) : val_number.f k 7 a b = some (ovR (a - b)) := by
  unfold Opn.I64 at ha hb
  unfold val_number.f
  simp only [bind4]
  rw [if_neg (by decide), if_pos trivial]
  have hw : (wrap64 (a - b) = a - b ∧ -9223372036854775808 ≤ a - b ∧ a - b ≤ 9223372036854775807) ∨ (wrap64 (a - b) = a - b - 18446744073709551616 ∧ a - b > 9223372036854775807) ∨ (wrap64 (a - b) = a - b + 18446744073709551616 ∧ a - b < -9223372036854775808) := by unfold wrap64; omega
  by_cases h1 : b < 0
  · rw [if_pos h1]
    by_cases h2 : wrap64 (a - b) < a
    · rw [if_pos h2]
      exact over_d (fun _ => by omega) (fun h => by cases h)
    · rw [if_neg h2, if_neg (by omega)]
      exact over_d (fun h => by cases h) (fun _ => by omega)
  · rw [if_neg h1]
    by_cases h2 : b > 0
    · rw [if_pos h2]
      exact over_d (fun h => by have := of_decide_eq_true h; omega) (fun h => by have := of_decide_eq_false h; omega)
    · rw [if_neg h2]
      exact over_d (fun h => by cases h) (fun _ => by omega)
theorem rSum (ha : Opn.I64 a) (hb : Opn.I64 b) : whirligigref01_sum.f a b = some (ovR (a + b)) := by
  unfold Opn.I64 at ha hb
  unfold whirligigref01_sum.f
  by_cases h1 : b > 0
  · rw [if_pos h1, wrap_at (x := 9223372036854775807 - b) (by omega) (by omega)]
    by_cases h2 : a > 9223372036854775807 - b
    · rw [if_pos h2, ovR_out (by omega)]
    · rw [if_neg h2, if_neg (by omega), wrap_at (by omega) (by omega), ovR_in (by omega)]
  · rw [if_neg h1]
    by_cases h2 : b < 0
    · rw [if_pos h2, wrap_at (x := (-9223372036854775808) - b) (by omega) (by omega)]
      by_cases h3 : a < (-9223372036854775808) - b
      · rw [if_pos h3, ovR_out (by omega)]
      · rw [if_neg h3, wrap_at (by omega) (by omega), ovR_in (by omega)]
    · rw [if_neg h2, wrap_at (by omega) (by omega), ovR_in (by omega)]
theorem rLess (ha : Opn.I64 a) (hb : Opn.I64 b) : whirligigref01_less.f a b = some (ovR (a - b)) := by
  have ha' := ha
  unfold Opn.I64 at ha hb
  unfold whirligigref01_less.f
  simp only [bind4]
  by_cases h1 : b = -9223372036854775808
  · rw [if_pos h1]
    by_cases h2 : a ≥ 0
    · rw [if_pos h2, ovR_out (by omega)]
    · rw [if_neg h2, wrap_at (by omega) (by omega), ovR_in (by omega)]
  · rw [if_neg h1, wrap_at (x := -b) (by omega) (by omega), rSum ha' ⟨by omega, by omega⟩, show a + -b = a - b by omega]
theorem tdiv_abs (h : b ≠ 0) : (Int.tdiv a b).natAbs ≤ a.natAbs := by
  rw [Int.natAbs_tdiv]; exact Nat.div_le_self _ _
theorem tdiv_two (h : 2 ≤ b.natAbs) : (Int.tdiv a b).natAbs * 2 ≤ a.natAbs := by
  rw [Int.natAbs_tdiv]
  calc a.natAbs / b.natAbs * 2 ≤ a.natAbs / b.natAbs * b.natAbs := Nat.mul_le_mul_left _ h
    _ ≤ a.natAbs := Nat.div_mul_le_self _ _
theorem tdiv_in (ha : Opn.I64 a) (hb : Opn.I64 b) (h0 : b ≠ 0) (h1 : ¬ (a = -9223372036854775808 ∧ b = -1)) : -9223372036854775808 ≤ Int.tdiv a b ∧ Int.tdiv a b ≤ 9223372036854775807 := by
  have h2 := tdiv_abs (a := a) h0
  unfold Opn.I64 at ha hb
  by_cases e : a = -9223372036854775808
  · subst e
    by_cases e1 : b = 1
    · subst e1; decide
    · have h3 := tdiv_two (a := -9223372036854775808) (show 2 ≤ b.natAbs by omega)
      omega
  · omega
theorem min_div : Int.tdiv (-9223372036854775808) (-1) = 9223372036854775808 := by decide
theorem vDiv (ha : Opn.I64 a) (hb : Opn.I64 b) (k : Nat) : val_number.f (k + 1) 4 a b = some (divR a b) := by
  have ha' := ha
  have hb' := hb
  unfold Opn.I64 at ha hb
  unfold val_number.f divR
  simp only [bind4]
  rw [if_neg (by decide), if_neg (by decide), if_neg (by decide)]
  by_cases h0 : b = 0
  · rw [if_pos h0, if_pos h0]
  · rw [if_neg h0, if_neg (by decide), if_neg h0]
    simp only [val_number.j0, bind4]
    rw [if_neg (by decide), if_neg (by decide)]
    by_cases h1 : b = -1
    · rw [if_pos h1]
      subst h1
      have hd : Int.tdiv a (-1) = -a := by rw [Int.tdiv_neg, Int.tdiv_one]
      rw [hd]
      by_cases h2 : a = -9223372036854775808
      · exact over_d (fun _ => by omega) (fun h => by rw [beq_eq_false_iff_ne] at h; exact absurd h2 h)
      · exact over_d (fun h => absurd (beq_iff_eq.1 h) h2) (fun _ => ⟨by omega, by omega, wrap_at (by omega) (by omega)⟩)
    · rw [if_neg h1, if_neg h0]
      obtain ⟨h3, h4⟩ := tdiv_in ha' hb' h0 (fun h => h1 h.2)
      rw [ovR_in ⟨h3, h4⟩, wrap_at h3 h4]; rfl
theorem vRem (k : Nat) : val_number.f (k + 1) 5 a b = some (remR a b) := by
  unfold val_number.f remR
  simp only [bind4]
  rw [if_neg (by decide), if_neg (by decide), if_neg (by decide)]
  by_cases h0 : b = 0
  · rw [if_pos h0, if_pos h0]
  · rw [if_neg h0, if_pos trivial, if_neg h0]
    simp only [val_number.j0, bind4]
    by_cases h1 : b = -1
    · subst h1
      rw [if_pos rfl, Int.tmod_neg, Int.tmod_one]; rfl
    · rw [if_neg (by simpa using h1), if_pos trivial, if_neg h0]; rfl
theorem rDiv (ha : Opn.I64 a) (hb : Opn.I64 b) (k : Nat) : whirligigref01_divide.f (k + 1) a b false = some (divR a b) := by
  have ha' := ha
  have hb' := hb
  unfold Opn.I64 at ha hb
  unfold whirligigref01_divide.f divR
  by_cases h0 : b = 0
  · rw [if_pos h0, if_pos h0]
  · rw [if_neg h0, if_neg h0]
    simp only [whirligigref01_divide.j0]
    by_cases h2 : a = -9223372036854775808
    · rw [if_pos h2]
      by_cases h1 : b = -1
      · subst h1 h2
        rw [if_pos (by decide), if_neg (by decide), min_div, ovR_out (by omega)]
      · rw [if_neg (by simpa using h1), if_neg (by decide), if_neg h0]
        obtain ⟨h3, h4⟩ := tdiv_in ha' hb' h0 (fun h => h1 h.2)
        rw [ovR_in ⟨h3, h4⟩, wrap_at h3 h4]
    · rw [if_neg h2, if_neg (by decide), if_neg (by decide), if_neg h0]
      obtain ⟨h3, h4⟩ := tdiv_in ha' hb' h0 (fun h => h2 h.1)
      rw [ovR_in ⟨h3, h4⟩, wrap_at h3 h4]
theorem tmod_in (hb : Opn.I64 b) (h0 : b ≠ 0) : -9223372036854775808 ≤ Int.tmod a b ∧ Int.tmod a b ≤ 9223372036854775807 := by
  unfold Opn.I64 at hb
  have h1 : (Int.tmod a b).natAbs < b.natAbs := by rw [Int.natAbs_tmod]; exact Nat.mod_lt _ (by omega)
  omega
theorem rRem (ha : Opn.I64 a) (hb : Opn.I64 b) (k : Nat) : whirligigref01_divide.f (k + 1) a b true = some (remR a b) := by
  have ha' := ha
  have hb' := hb
  unfold Opn.I64 at ha hb
  unfold whirligigref01_divide.f remR
  by_cases h0 : b = 0
  · rw [if_pos h0, if_pos h0]
  · rw [if_neg h0, if_neg h0]
    simp only [whirligigref01_divide.j0]
    have key : ¬ (a = -9223372036854775808 ∧ b = -1) → wrap64 (a - wrap64 (wrap64 (Int.tdiv a b) * b)) = Int.tmod a b := fun h => by
      obtain ⟨h3, h4⟩ := tdiv_in ha' hb' h0 h
      obtain ⟨h5, h6⟩ := tmod_in (a := a) hb' h0
      rw [wrap_at h3 h4]
      have h7 : Int.tdiv a b * b = a - Int.tmod a b := by have := Int.tmod_add_mul_tdiv a b; rw [Int.mul_comm] at this; omega
      rw [h7]
      have h8 : wrap64 (a - Int.tmod a b) = a - Int.tmod a b ∨ wrap64 (a - Int.tmod a b) = a - Int.tmod a b - 18446744073709551616 ∨ wrap64 (a - Int.tmod a b) = a - Int.tmod a b + 18446744073709551616 := by unfold wrap64; omega
      unfold wrap64 at h8 ⊢
      omega
    by_cases h2 : a = -9223372036854775808
    · rw [if_pos h2]
      by_cases h1 : b = -1
      · subst h1 h2
        rw [if_pos (by decide), if_pos trivial]; rfl
      · rw [if_neg (by simpa using h1), if_pos trivial, if_neg h0, key (fun h => h1 h.2)]
    · rw [if_neg h2, if_neg (by decide), if_pos trivial, if_neg h0, key (fun h => h2 h.1)]
theorem vMul (ha : Opn.I64 a) (hb : Opn.I64 b) (k : Nat) : val_number.f k 3 a b = some (ovR (a * b)) := by
  unfold Opn.I64 at ha hb
  unfold val_number.f
  simp only [bind4]
  rw [if_neg (by decide), if_neg (by decide), if_pos trivial]
  by_cases h1 : a = -1
  · subst h1
    rw [if_pos rfl, show (-1 : Int) * b = -b by omega]
    by_cases h2 : b = -9223372036854775808
    · rw [if_pos h2]
      exact over_d (fun _ => by omega) (fun h => by cases h)
    · rw [if_neg h2]
      have hw : wrap64 (-b) = -b := wrap_at (by omega) (by omega)
      have key : val_over.f (wrap64 (-b)) false = some (ovR (-b)) := over_d (fun h => by cases h) (fun _ => ⟨by omega, by omega, hw⟩)
      repeat' split
      all_goals first | exact key | (rename_i h; exact absurd h (by decide))
  · rw [if_neg h1]
    by_cases h0 : a = 0
    · subst h0
      rw [Int.zero_mul]
      have key : val_over.f (wrap64 0) false = some (ovR 0) := over_d (fun h => by cases h) (fun _ => ⟨by omega, by omega, wrap_at (by omega) (by omega)⟩)
      repeat' split
      all_goals first | exact key | (rename_i h; exact absurd h (by decide))
    · rw [if_neg h0]
      have key : val_over.f (wrap64 (a * b)) (wrap64 (Int.tdiv (wrap64 (a * b)) a) != b) = some (ovR (a * b)) := by
        obtain ⟨m, hm⟩ : ∃ m : Int, wrap64 (a * b) = a * b - m * 18446744073709551616 ∧ -9223372036854775808 ≤ wrap64 (a * b) ∧ wrap64 (a * b) ≤ 9223372036854775807 := ⟨(a * b + 9223372036854775808) / 18446744073709551616, by unfold wrap64; omega⟩
        obtain ⟨hm1, hm2, hm3⟩ := hm
        obtain ⟨h3, h4⟩ := tdiv_in (a := wrap64 (a * b)) (b := a) ⟨hm2, hm3⟩ ⟨ha.1, ha.2⟩ h0 (fun h => h1 h.2)
        rw [wrap_at h3 h4]
        refine over_d (fun h hr => ?_) (fun h => ?_)
        · -- where the product is in range, the quotient is b
          rw [wrap_at hr.1 hr.2] at h
          rw [Int.mul_tdiv_cancel_left b h0] at h
          simp at h
        · rw [bne_eq_false_iff_eq] at h
          have h5 : (Int.tmod (wrap64 (a * b)) a).natAbs < a.natAbs := by rw [Int.natAbs_tmod]; exact Nat.mod_lt _ (by omega)
          have h6 := Int.tmod_add_mul_tdiv (wrap64 (a * b)) a
          rw [h] at h6
          have h7 : m = 0 := by omega
          subst h7
          omega
      by_cases h2 : b = -1
      · rw [if_pos h2]
        by_cases h3 : a = -9223372036854775808
        · rw [if_pos h3]
          exact over_d (fun _ => by subst h2 h3; decide) (fun h => by cases h)
        · rw [if_neg h3]
          exact key
      · rw [if_neg h2]
        exact key
end
theorem half_up {X Y : Nat} (h : Y ≠ 0) : X * Y = X * (Y % 2) + 2 * X * (Y / 2) := by
  have h1 : Y = Y % 2 + 2 * (Y / 2) := by omega
  calc X * Y = X * (Y % 2 + 2 * (Y / 2)) := by rw [← h1]
    _ = X * (Y % 2) + X * (2 * (Y / 2)) := Nat.mul_add _ _ _
    _ = X * (Y % 2) + 2 * X * (Y / 2) := by rw [← Nat.mul_assoc, Nat.mul_comm X 2]
def prodR (t : Nat) : Int × Int × ByteArray := if t ≤ 9223372036854775808 then (1, -(t : Int), ⟨#[]⟩) else (0, 0, ⟨#[]⟩)
theorem product_l0 : ∀ (n X Y O : Nat), Y < n → X ≤ 9223372036854775808 → Y ≤ 9223372036854775808 → O ≤ 9223372036854775808 →
    Ev (fun k => whirligigref01_product.l0 k (-(X : Int)) (-(Y : Int)) (-(O : Int))) (prodR (O + X * Y)) := by
  intro n
  induction n with
  | zero => intro X Y O h; omega
  | succ n ih =>
    intro X Y O hn hX hY hO
    refine Ev.succ ?_
    simp only [whirligigref01_product.l0]
    by_cases h0 : Y = 0
    · subst h0
      refine Ev.pos (by simp) (Ev.some ?_)
      rw [Nat.mul_zero, Nat.add_zero]; unfold prodR; rw [if_pos hO]
    refine Ev.neg (by omega) ?_
    have hdiv : Int.tdiv (-(Y : Int)) 2 = -((Y / 2 : Nat) : Int) := by rw [Int.neg_tdiv]; rfl
    have hmod : Int.tmod (-(Y : Int)) 2 = -((Y % 2 : Nat) : Int) := by rw [Int.neg_tmod]; rfl
    have hw : wrap64 (-((Y / 2 : Nat) : Int)) = -((Y / 2 : Nat) : Int) := wrap_at (by omega) (by omega)
    have hh := half_up (X := X) h0
    have step : ∀ (O' : Nat), O' ≤ 9223372036854775808 → O' = O + X * (Y % 2) → Ev (fun k => whirligigref01_product.j1 k (-(X : Int)) (-(Y : Int)) (-(O' : Int))) (prodR (O + X * Y)) := by
      intro O' hO' he
      refine Ev.succ ?_
      simp only [whirligigref01_product.j1]
      rw [hdiv, hw]
      by_cases h1 : Y / 2 = 0
      · refine Ev.pos (by rw [h1]; rfl) ?_
        have := ih X (Y / 2) O' (by omega) hX (by omega) hO'
        rw [show O' + X * (Y / 2) = O + X * Y by rw [hh, h1, he]; simp] at this
        exact this
      · refine Ev.neg (by omega) ?_
        by_cases h2 : -(X : Int) < -4611686018427387904
        · refine Ev.pos h2 (Ev.some ?_)
          have h3 : 2 * X * 1 ≤ 2 * X * (Y / 2) := Nat.mul_le_mul_left _ (by omega)
          unfold prodR
          rw [if_neg (by omega)]
        · refine Ev.neg h2 ?_
          have := ih (2 * X) (Y / 2) O' (by omega) (by omega) (by omega) hO'
          rw [show O' + 2 * X * (Y / 2) = O + X * Y by rw [hh, he]; omega] at this
          rw [show wrap64 (2 * -(X : Int)) = -((2 * X : Nat) : Int) by rw [wrap_at (by omega) (by omega)]; omega]
          exact this
    rw [hmod]
    rcases (show Y % 2 = 0 ∨ Y % 2 = 1 by omega) with e | e
    · exact Ev.pos (by rw [e]; rfl) (step O hO (by rw [e]; simp))
    · refine Ev.neg (by rw [e]; decide) ?_
      rw [wrap_at (x := -9223372036854775808 - -(X : Int)) (by omega) (by omega)]
      rw [e, Nat.mul_one] at hh
      by_cases h2 : -(O : Int) < -9223372036854775808 - -(X : Int)
      · refine Ev.pos h2 (Ev.some ?_)
        unfold prodR
        rw [if_neg (by omega)]
      · refine Ev.neg h2 ?_
        rw [show wrap64 (-(O : Int) + -(X : Int)) = -((O + X : Nat) : Int) by rw [wrap_at (by omega) (by omega)]; omega]
        exact step (O + X) (by omega) (by rw [e, Nat.mul_one])
theorem product_ev (X Y : Nat) (hX : X ≤ 9223372036854775808) (hY : Y ≤ 9223372036854775808) : Ev (fun k => whirligigref01_product.f k (-(X : Int)) (-(Y : Int))) (prodR (X * Y)) := by
  unfold whirligigref01_product.f
  have := product_l0 (Y + 1) X Y 0 (by omega) hX hY (by omega)
  rw [Nat.zero_add] at this
  exact this
theorem mul_abs (a b : Int) : ((decide (a < 0)) == (decide (b < 0))) = true ∧ a * b = ((a.natAbs * b.natAbs : Nat) : Int) ∨ ((decide (a < 0)) == (decide (b < 0))) = false ∧ a * b = -((a.natAbs * b.natAbs : Nat) : Int) := by
  have h : ∀ x : Int, x < 0 ∧ x = -(x.natAbs : Int) ∨ 0 ≤ x ∧ x = (x.natAbs : Int) := fun x => by omega
  rw [Int.natCast_mul]
  rcases h a with ⟨a1, a2⟩ | ⟨a1, a2⟩ <;> rcases h b with ⟨b1, b2⟩ | ⟨b1, b2⟩
  · refine Or.inl ⟨by rw [decide_eq_true a1, decide_eq_true b1]; rfl, ?_⟩
    generalize a.natAbs = X at *; generalize b.natAbs = Y at *
    rw [a2, b2, Int.neg_mul_neg]
  · refine Or.inr ⟨by rw [decide_eq_true a1, decide_eq_false (by omega)]; rfl, ?_⟩
    generalize a.natAbs = X at *; generalize b.natAbs = Y at *
    rw [a2, b2, Int.neg_mul]
  · refine Or.inr ⟨by rw [decide_eq_false (by omega), decide_eq_true b1]; rfl, ?_⟩
    generalize a.natAbs = X at *; generalize b.natAbs = Y at *
    rw [a2, b2, Int.mul_neg]
  · refine Or.inl ⟨by rw [decide_eq_false (by omega), decide_eq_false (by omega)]; rfl, ?_⟩
    generalize a.natAbs = X at *; generalize b.natAbs = Y at *
    rw [a2, b2]
theorem times_ev {a b : Int} (ha : Opn.I64 a) (hb : Opn.I64 b) : Ev (fun k => whirligigref01_times.f k a b) (ovR (a * b)) := by
  unfold Opn.I64 at ha hb
  have hab := mul_abs a b
  -- behind the two numbers without their signs
  have hj2 : ∀ p : Bool, (p = true → 9223372036854775808 < a.natAbs * b.natAbs) → Ev (fun k => whirligigref01_times.j2 k a b (-(a.natAbs : Int)) (-(b.natAbs : Int)) p) (ovR (a * b)) := by
    intro p hp
    refine Ev.succ ?_
    simp only [whirligigref01_times.j2]
    cases p with
    | true =>
      have := hp rfl
      exact Ev.pos rfl (Ev.some (ovR_out (by rcases hab with ⟨_, h⟩ | ⟨_, h⟩ <;> omega)).symm)
    | false =>
      refine Ev.neg (by decide) (Ev.bind (product_ev a.natAbs b.natAbs (by omega) (by omega)) ?_)
      by_cases ht : a.natAbs * b.natAbs ≤ 9223372036854775808
      · rw [show prodR (a.natAbs * b.natAbs) = (1, -((a.natAbs * b.natAbs : Nat) : Int), ⟨#[]⟩) from if_pos ht]
        refine Ev.neg (by dsimp only; omega) (Ev.succ ?_)
        simp only [whirligigref01_times.j3]
        refine Ev.neg (by decide) ?_
        rcases hab with ⟨h1, h2⟩ | ⟨h1, h2⟩
        · refine Ev.pos h1 ?_
          by_cases h3 : -((a.natAbs * b.natAbs : Nat) : Int) = -9223372036854775808
          · exact Ev.pos h3 (Ev.some (ovR_out (by omega)).symm)
          · refine Ev.neg h3 (Ev.some ?_)
            rw [ovR_in (by omega), wrap_at (by omega) (by omega), h2]
            simp
        · refine Ev.neg (by rw [h1]; decide) (Ev.some ?_)
          rw [ovR_in (by omega), h2]
      · rw [show prodR (a.natAbs * b.natAbs) = (0, 0, ⟨#[]⟩) from if_neg ht]
        refine Ev.neg (by decide) (Ev.succ ?_)
        simp only [whirligigref01_times.j3]
        exact Ev.pos rfl (Ev.some (ovR_out (by rcases hab with ⟨_, h⟩ | ⟨_, h⟩ <;> omega)).symm)
  have hj1 : Ev (fun k => whirligigref01_times.j1 k a b (-(a.natAbs : Int)) (-(b.natAbs : Int))) (ovR (a * b)) := by
    refine Ev.succ ?_
    simp only [whirligigref01_times.j1]
    by_cases h0 : -(a.natAbs : Int) = 0
    · exact Ev.pos h0 (hj2 false (fun h => by cases h))
    · refine Ev.neg h0 ?_
      obtain ⟨d, hd, hd0, hdX, hdm⟩ : ∃ d : Nat, mx (-(a.natAbs : Int)) (-9223372036854775807) = -(d : Int) ∧ 0 < d ∧ d ≤ a.natAbs ∧ d ≤ 9223372036854775807 := by
        unfold mx
        by_cases h : -(a.natAbs : Int) < -9223372036854775807
        · exact ⟨9223372036854775807, by rw [if_pos h]; rfl, by omega, by omega, by omega⟩
        · exact ⟨a.natAbs, by rw [if_neg h], by omega, by omega, by omega⟩
      have hw : wrap64 (-(-(d : Int))) = (d : Int) := by rw [wrap_at (by omega) (by omega)]; omega
      rw [hd, hw]
      have hq : Int.tdiv (-9223372036854775807) (d : Int) = -((9223372036854775807 / d : Nat) : Int) := by
        rw [show (-9223372036854775807 : Int) = -((9223372036854775807 : Nat) : Int) from rfl, Int.neg_tdiv]; rfl
      have hqle : 9223372036854775807 / d ≤ 9223372036854775807 := Nat.div_le_self _ _
      have h3 : 9223372036854775807 < d * (9223372036854775807 / d + 1) := Nat.lt_mul_div_succ _ hd0
      rw [hq]
      generalize 9223372036854775807 / d = q at hqle h3 ⊢
      rw [wrap_at (x := -(q : Int)) (by omega) (by omega), wrap_at (x := -(q : Int) - 1) (by omega) (by omega)]
      refine Ev.neg (by omega) (hj2 _ (fun h => ?_))
      have h1 := of_decide_eq_true h
      have h2 : q + 2 ≤ b.natAbs := by omega
      calc 9223372036854775808 ≤ d * (q + 1) := h3
        _ < d * (q + 2) := Nat.mul_lt_mul_of_pos_left (by omega) hd0
        _ ≤ a.natAbs * b.natAbs := Nat.mul_le_mul hdX h2
  have hneg : ∀ x : Int, -9223372036854775808 ≤ x ∧ x ≤ 9223372036854775807 → x ≠ -9223372036854775808 → mn x (wrap64 (-x)) = -(x.natAbs : Int) := fun x hx h => by
    rw [wrap_at (by omega) (by omega)]
    unfold mn
    split <;> omega
  have hj0 : ∀ y : Int, (b ≠ -9223372036854775808 → y = -(b.natAbs : Int)) → Ev (fun k => whirligigref01_times.j0 k a b (-(a.natAbs : Int)) y) (ovR (a * b)) := fun y hy => by
    refine Ev.succ ?_
    simp only [whirligigref01_times.j0]
    by_cases h : b = -9223372036854775808
    · refine Ev.pos h ?_
      have : b = -(b.natAbs : Int) := by omega
      rw [← this] at hj1
      exact hj1
    · rw [hy h]
      exact Ev.neg h hj1
  unfold whirligigref01_times.f
  by_cases h : a = -9223372036854775808
  · refine Ev.pos h ?_
    have := hj0 (mn b (wrap64 (-b))) (fun hb' => hneg b hb hb')
    have e : a = -(a.natAbs : Int) := by omega
    rw [← e] at this
    exact this
  · refine Ev.neg h ?_
    rw [hneg a ha h]
    exact hj0 _ (fun hb' => hneg b hb hb')
end Go.Proofs.YtbngfhlciebeeaaDoor.Sp
end
section
namespace Go.Proofs.YtbngfhlciebeeaaDoor.L
open Go.RowKit Go.Proofs.YtbngfhlciebeeaaDoorW.PrintWords Go.Proofs.YtbngfhlciebeeaaDoorW.PrintLast Go.Proofs.YtbngfhlciebeeaaDoorW.PrintMore
attribute [local go_sem] max2_int min2_int max_two min_two max_three min_three max_four min_four   -- for this text's walks alone
set_option linter.unusedVariables false
set_option linter.unusedSimpArgs false
def kind_Scope_node.f (k : Nat) (l0_0 : List (S118)) (l0_1 : List ByteArray) (a1_0 : Int) (a1_1 : Int) (a1_2 : Int) (a1_3 : ByteArray) (a1_4 : ByteArray) (a1_5 : Int) (a1_6 : Int) (l2 : List Int) : Option (Int × Int) := if a1_0 = 0 then (some (a1_1, 0)) else (if a1_0 = 16 then ((kind_Scope_find.f l0_0 l0_1 a1_4).bind fun bt796 => (if bt796.2 = true then (some (bt796.1, 0)) else (some (0, 24)))) else (if a1_0 = 17 then ((slices_Contains_string_string.f k l0_1 a1_4).bind fun t798 => (if t798 = true then (some (2, 0)) else (some (0, 24)))) else (if 0 ≤ a1_5 then (if a1_5 < (l2.length : Int) then (if 0 ≤ a1_6 then (if a1_6 < (l2.length : Int) then ((val_Result.f k a1_0 (rd l2 a1_5) (rd l2 a1_6)).bind fun bt801 => (if bt801.2 = true then (some (bt801.1, 0)) else (some (0, 20)))) else (none)) else (none)) else (none)) else (none))))
set_option maxHeartbeats 8000000 in
set_option maxRecDepth 100000 in
theorem kind_Scope_node.calls (k : Nat) (A0_0 : Option Addr) (c0_0 : Nat) (l0_0 : List (S118)) (A0_1 : Option Addr) (c0_1 : Nat) (l0_1 : List ByteArray) (a1_0 : Int) (a1_1 : Int) (a1_2 : Int) (a1_3 : ByteArray) (a1_4 : ByteArray) (a1_5 : Int) (a1_6 : Int) (A2 : Option Addr) (c2 : Nat) (l2 : List Int) (r1 : Int) (r2 : Int) (w : World) (hr0_0 : Kd.C k118 w A0_0 l0_0.length l0_0) (hc0_0 : l0_0.length ≤ c0_0) (hr0_1 : Kd.C Kd.string w A0_1 l0_1.length l0_1) (hc0_1 : l0_1.length ≤ c0_1) (hr2 : Kd.C (Kd.int .i64) w A2 l2.length l2) (hc2 : l2.length ≤ c2) (h : kind_Scope_node.f k l0_0 l0_1 a1_0 a1_1 a1_2 a1_3 a1_4 a1_5 a1_6 l2 = some (r1, r2)) :
  Calls Tryd.prog 91 #[.agg #[.slice A0_0 l0_0.length c0_0, .slice A0_1 l0_1.length c0_1], .agg #[.int .i64 a1_0, .int .i64 a1_1, .int .i64 a1_2, .string a1_3, .string a1_4, .int .i64 a1_5, .int .i64 a1_6], .slice A2 l2.length c2] w fun e w' => e = .returned (.tuple #[.int .i64 r1, .int .i64 r2]) ∧ Below w.heap.size w w' := by
 have hu78 := Tryd.underlying78
 have hu156 := Tryd.underlying156
 have HR0_0 := Aside0.mk hr0_0
 have HC0_0 := Aside0.mk hc0_0
 clear hr0_0 hc0_0
 have HR0_1 := Aside0.mk hr0_1
 have HC0_1 := Aside0.mk hc0_1
 clear hr0_1 hc0_1
 have HR2 := Aside0.mk hr2
 have HC2 := Aside0.mk hc2
 clear hr2 hc2
 have HB := Aside0.mk (Below.refl w.heap.size w)
 have H : (if a1_0 = 0 then (some (a1_1, 0)) else (if a1_0 = 16 then ((kind_Scope_find.f l0_0 l0_1 a1_4).bind fun bt796 => (if bt796.2 = true then (some (bt796.1, 0)) else (some (0, 24)))) else (if a1_0 = 17 then ((slices_Contains_string_string.f k l0_1 a1_4).bind fun t798 => (if t798 = true then (some (2, 0)) else (some (0, 24)))) else (if 0 ≤ a1_5 then (if a1_5 < (l2.length : Int) then (if 0 ≤ a1_6 then (if a1_6 < (l2.length : Int) then ((val_Result.f k a1_0 (rd l2 a1_5) (rd l2 a1_6)).bind fun bt801 => (if bt801.2 = true then (some (bt801.1, 0)) else (some (0, 20)))) else (none)) else (none)) else (none)) else (none))))) = some (r1, r2) := h
 clear h
 by_cases c4 : a1_0 = 0
 ·rw [if_pos c4] at H
  have c4b0 := beq_iff_eq.mpr c4
  have c4b1 := bne_eq_false_iff_eq.mpr c4
  clear c4
  simp only [Option.some.injEq, Prod.mk.injEq] at H
  obtain ⟨rfl, rfl⟩ := H
  go_enter Tryd.func91, Tryd.ntmps91
  go_wp2_with (first | ((with_reducible refine gd 3 rfl ?_); refine bxx 3 #[.slice A0_0 l0_0.length c0_0, .slice A0_1 l0_1.length c0_1] 78 ?_; intro gb794 w5 BK794 GW794 HB) | ((with_reducible refine gd 4 rfl ?_); refine bx 4 #[.int .i64 a1_0, .int .i64 a1_1, .int .i64 a1_2, .string a1_3, .string a1_4, .int .i64 a1_5, .int .i64 a1_6] 156 ?_; intro gb795 hg w6 hbox hb; have BK795 := Aside0.mk (hbox); have GW795 := geS hg; have GE795 := geS hg; have NB794_795 := neS gb794 hg; have NB795_794 := neT gb794 hg; replace BK794 := kb gb794 hb; replace HB := bst hb; clear hb hbox hg; have := NB795_794.out; have := NB794_795.out; obtain ⟨_, _, _, _, _, _, _, _, _, _, _, _, _, _⟩ := cells7 BK795.out))
  repeat (go_quiet (first | ((with_reducible refine gd 3 rfl ?_); refine bxx 3 #[.slice A0_0 l0_0.length c0_0, .slice A0_1 l0_1.length c0_1] 78 ?_; intro gb794 w5 BK794 GW794 HB) | ((with_reducible refine gd 4 rfl ?_); refine bx 4 #[.int .i64 a1_0, .int .i64 a1_1, .int .i64 a1_2, .string a1_3, .string a1_4, .int .i64 a1_5, .int .i64 a1_6] 156 ?_; intro gb795 hg w6 hbox hb; have BK795 := Aside0.mk (hbox); have GW795 := geS hg; have GE795 := geS hg; have NB794_795 := neS gb794 hg; have NB795_794 := neT gb794 hg; replace BK794 := kb gb794 hb; replace HB := bst hb; clear hb hbox hg; have := NB795_794.out; have := NB794_795.out; obtain ⟨_, _, _, _, _, _, _, _, _, _, _, _, _, _⟩ := cells7 BK795.out)); try go_wp2_with (first | ((with_reducible refine gd 3 rfl ?_); refine bxx 3 #[.slice A0_0 l0_0.length c0_0, .slice A0_1 l0_1.length c0_1] 78 ?_; intro gb794 w5 BK794 GW794 HB) | ((with_reducible refine gd 4 rfl ?_); refine bx 4 #[.int .i64 a1_0, .int .i64 a1_1, .int .i64 a1_2, .string a1_3, .string a1_4, .int .i64 a1_5, .int .i64 a1_6] 156 ?_; intro gb795 hg w6 hbox hb; have BK795 := Aside0.mk (hbox); have GW795 := geS hg; have GE795 := geS hg; have NB794_795 := neS gb794 hg; have NB795_794 := neT gb794 hg; replace BK794 := kb gb794 hb; replace HB := bst hb; clear hb hbox hg; have := NB795_794.out; have := NB794_795.out; obtain ⟨_, _, _, _, _, _, _, _, _, _, _, _, _, _⟩ := cells7 BK795.out)))
  go_ret2
  exact ⟨qR, qB⟩
 rw [if_neg c4] at H
 have c4b0 := beq_eq_false_iff_ne.mpr c4
 have c4b1 := bne_iff_ne.mpr c4
 by_cases c9 : a1_0 = 16
 ·rw [if_pos c9] at H
  have c9b0 := beq_iff_eq.mpr c9
  have c9b1 := bne_eq_false_iff_eq.mpr c9
  clear c9
  replace H := Option.bind_eq_some_iff.mp H
  obtain ⟨⟨t796, t797⟩, A100, H⟩ := H
  (try dsimp -simprocs only at H)
  have A10 := Aside0.mk A100
  clear A100
  by_cases c11 : t797 = true
  ·subst c11
   rw [if_pos rfl] at H
   simp only [Option.some.injEq, Prod.mk.injEq] at H
   obtain ⟨rfl, rfl⟩ := H
   go_enter Tryd.func91, Tryd.ntmps91
   go_wp2_with (first | ((with_reducible refine gd 3 rfl ?_); refine bxx 3 #[.slice A0_0 l0_0.length c0_0, .slice A0_1 l0_1.length c0_1] 78 ?_; intro gb794 w12 BK794 GW794 HB) | ((with_reducible refine gd 4 rfl ?_); refine bx 4 #[.int .i64 a1_0, .int .i64 a1_1, .int .i64 a1_2, .string a1_3, .string a1_4, .int .i64 a1_5, .int .i64 a1_6] 156 ?_; intro gb795 hg w13 hbox hb; have BK795 := Aside0.mk (hbox); have GW795 := geS hg; have GE795 := geS hg; have NB794_795 := neS gb794 hg; have NB795_794 := neT gb794 hg; replace BK794 := kb gb794 hb; replace HB := bst hb; clear hb hbox hg; have := NB795_794.out; have := NB794_795.out; obtain ⟨_, _, _, _, _, _, _, _, _, _, _, _, _, _⟩ := cells7 BK795.out; obtain ⟨_, _, _, _⟩ := cells2 BK794.out) | (go_at_call 116; (with_reducible refine (kind_Scope_find.calls _ _ l0_0 _ _ l0_1 a1_4 t796 true _ ?side1 ?side2 ?side3 ?side4 A10.out).mono ?_); (case side1 => exact qC); (case side2 => exact HC0_0.out); (case side3 => exact qC); (case side4 => exact HC0_1.out); rintro e w17 ⟨rfl, hb⟩; replace BK794 := kb gb794 hb; replace BK795 := kb gb795 hb; replace HB := bst hb; (try clear hb)))
   repeat (go_quiet (first | ((with_reducible refine gd 3 rfl ?_); refine bxx 3 #[.slice A0_0 l0_0.length c0_0, .slice A0_1 l0_1.length c0_1] 78 ?_; intro gb794 w12 BK794 GW794 HB) | ((with_reducible refine gd 4 rfl ?_); refine bx 4 #[.int .i64 a1_0, .int .i64 a1_1, .int .i64 a1_2, .string a1_3, .string a1_4, .int .i64 a1_5, .int .i64 a1_6] 156 ?_; intro gb795 hg w13 hbox hb; have BK795 := Aside0.mk (hbox); have GW795 := geS hg; have GE795 := geS hg; have NB794_795 := neS gb794 hg; have NB795_794 := neT gb794 hg; replace BK794 := kb gb794 hb; replace HB := bst hb; clear hb hbox hg; have := NB795_794.out; have := NB794_795.out; obtain ⟨_, _, _, _, _, _, _, _, _, _, _, _, _, _⟩ := cells7 BK795.out; obtain ⟨_, _, _, _⟩ := cells2 BK794.out) | (go_at_call 116; (with_reducible refine (kind_Scope_find.calls _ _ l0_0 _ _ l0_1 a1_4 t796 true _ ?side1 ?side2 ?side3 ?side4 A10.out).mono ?_); (case side1 => exact qC); (case side2 => exact HC0_0.out); (case side3 => exact qC); (case side4 => exact HC0_1.out); rintro e w17 ⟨rfl, hb⟩; replace BK794 := kb gb794 hb; replace BK795 := kb gb795 hb; replace HB := bst hb; (try clear hb))); try go_wp2_with (first | ((with_reducible refine gd 3 rfl ?_); refine bxx 3 #[.slice A0_0 l0_0.length c0_0, .slice A0_1 l0_1.length c0_1] 78 ?_; intro gb794 w12 BK794 GW794 HB) | ((with_reducible refine gd 4 rfl ?_); refine bx 4 #[.int .i64 a1_0, .int .i64 a1_1, .int .i64 a1_2, .string a1_3, .string a1_4, .int .i64 a1_5, .int .i64 a1_6] 156 ?_; intro gb795 hg w13 hbox hb; have BK795 := Aside0.mk (hbox); have GW795 := geS hg; have GE795 := geS hg; have NB794_795 := neS gb794 hg; have NB795_794 := neT gb794 hg; replace BK794 := kb gb794 hb; replace HB := bst hb; clear hb hbox hg; have := NB795_794.out; have := NB794_795.out; obtain ⟨_, _, _, _, _, _, _, _, _, _, _, _, _, _⟩ := cells7 BK795.out; obtain ⟨_, _, _, _⟩ := cells2 BK794.out) | (go_at_call 116; (with_reducible refine (kind_Scope_find.calls _ _ l0_0 _ _ l0_1 a1_4 t796 true _ ?side1 ?side2 ?side3 ?side4 A10.out).mono ?_); (case side1 => exact qC); (case side2 => exact HC0_0.out); (case side3 => exact qC); (case side4 => exact HC0_1.out); rintro e w17 ⟨rfl, hb⟩; replace BK794 := kb gb794 hb; replace BK795 := kb gb795 hb; replace HB := bst hb; (try clear hb))))
   go_ret2
   exact ⟨qR, qB⟩
  replace c11 := Bool.eq_false_iff.mpr c11
  subst c11
  rw [if_neg (show ¬ (false = true) by decide)] at H
  simp only [Option.some.injEq, Prod.mk.injEq] at H
  obtain ⟨rfl, rfl⟩ := H
  go_enter Tryd.func91, Tryd.ntmps91
  go_wp2_with (first | ((with_reducible refine gd 3 rfl ?_); refine bxx 3 #[.slice A0_0 l0_0.length c0_0, .slice A0_1 l0_1.length c0_1] 78 ?_; intro gb794 w18 BK794 GW794 HB) | ((with_reducible refine gd 4 rfl ?_); refine bx 4 #[.int .i64 a1_0, .int .i64 a1_1, .int .i64 a1_2, .string a1_3, .string a1_4, .int .i64 a1_5, .int .i64 a1_6] 156 ?_; intro gb795 hg w19 hbox hb; have BK795 := Aside0.mk (hbox); have GW795 := geS hg; have GE795 := geS hg; have NB794_795 := neS gb794 hg; have NB795_794 := neT gb794 hg; replace BK794 := kb gb794 hb; replace HB := bst hb; clear hb hbox hg; have := NB795_794.out; have := NB794_795.out; obtain ⟨_, _, _, _, _, _, _, _, _, _, _, _, _, _⟩ := cells7 BK795.out; obtain ⟨_, _, _, _⟩ := cells2 BK794.out) | (go_at_call 116; (with_reducible refine (kind_Scope_find.calls _ _ l0_0 _ _ l0_1 a1_4 t796 false _ ?side1 ?side2 ?side3 ?side4 A10.out).mono ?_); (case side1 => exact qC); (case side2 => exact HC0_0.out); (case side3 => exact qC); (case side4 => exact HC0_1.out); rintro e w23 ⟨rfl, hb⟩; replace BK794 := kb gb794 hb; replace BK795 := kb gb795 hb; replace HB := bst hb; (try clear hb)))
  repeat (go_quiet (first | ((with_reducible refine gd 3 rfl ?_); refine bxx 3 #[.slice A0_0 l0_0.length c0_0, .slice A0_1 l0_1.length c0_1] 78 ?_; intro gb794 w18 BK794 GW794 HB) | ((with_reducible refine gd 4 rfl ?_); refine bx 4 #[.int .i64 a1_0, .int .i64 a1_1, .int .i64 a1_2, .string a1_3, .string a1_4, .int .i64 a1_5, .int .i64 a1_6] 156 ?_; intro gb795 hg w19 hbox hb; have BK795 := Aside0.mk (hbox); have GW795 := geS hg; have GE795 := geS hg; have NB794_795 := neS gb794 hg; have NB795_794 := neT gb794 hg; replace BK794 := kb gb794 hb; replace HB := bst hb; clear hb hbox hg; have := NB795_794.out; have := NB794_795.out; obtain ⟨_, _, _, _, _, _, _, _, _, _, _, _, _, _⟩ := cells7 BK795.out; obtain ⟨_, _, _, _⟩ := cells2 BK794.out) | (go_at_call 116; (with_reducible refine (kind_Scope_find.calls _ _ l0_0 _ _ l0_1 a1_4 t796 false _ ?side1 ?side2 ?side3 ?side4 A10.out).mono ?_); (case side1 => exact qC); (case side2 => exact HC0_0.out); (case side3 => exact qC); (case side4 => exact HC0_1.out); rintro e w23 ⟨rfl, hb⟩; replace BK794 := kb gb794 hb; replace BK795 := kb gb795 hb; replace HB := bst hb; (try clear hb))); try go_wp2_with (first | ((with_reducible refine gd 3 rfl ?_); refine bxx 3 #[.slice A0_0 l0_0.length c0_0, .slice A0_1 l0_1.length c0_1] 78 ?_; intro gb794 w18 BK794 GW794 HB) | ((with_reducible refine gd 4 rfl ?_); refine bx 4 #[.int .i64 a1_0, .int .i64 a1_1, .int .i64 a1_2, .string a1_3, .string a1_4, .int .i64 a1_5, .int .i64 a1_6] 156 ?_; intro gb795 hg w19 hbox hb; have BK795 := Aside0.mk (hbox); have GW795 := geS hg; have GE795 := geS hg; have NB794_795 := neS gb794 hg; have NB795_794 := neT gb794 hg; replace BK794 := kb gb794 hb; replace HB := bst hb; clear hb hbox hg; have := NB795_794.out; have := NB794_795.out; obtain ⟨_, _, _, _, _, _, _, _, _, _, _, _, _, _⟩ := cells7 BK795.out; obtain ⟨_, _, _, _⟩ := cells2 BK794.out) | (go_at_call 116; (with_reducible refine (kind_Scope_find.calls _ _ l0_0 _ _ l0_1 a1_4 t796 false _ ?side1 ?side2 ?side3 ?side4 A10.out).mono ?_); (case side1 => exact qC); (case side2 => exact HC0_0.out); (case side3 => exact qC); (case side4 => exact HC0_1.out); rintro e w23 ⟨rfl, hb⟩; replace BK794 := kb gb794 hb; replace BK795 := kb gb795 hb; replace HB := bst hb; (try clear hb))))
  go_ret2
  exact ⟨qR, qB⟩
 rw [if_neg c9] at H
 have c9b0 := beq_eq_false_iff_ne.mpr c9
 have c9b1 := bne_iff_ne.mpr c9
 by_cases c24 : a1_0 = 17
 ·rw [if_pos c24] at H
  have c24b0 := beq_iff_eq.mpr c24
  have c24b1 := bne_eq_false_iff_eq.mpr c24
  clear c24
  replace H := Option.bind_eq_some_iff.mp H
  obtain ⟨t798, A250, H⟩ := H
  (try dsimp -simprocs only at H)
  have A25 := Aside0.mk A250
  clear A250
  by_cases c26 : t798 = true
  ·subst c26
   rw [if_pos rfl] at H
   simp only [Option.some.injEq, Prod.mk.injEq] at H
   obtain ⟨rfl, rfl⟩ := H
   go_enter Tryd.func91, Tryd.ntmps91
   go_wp2_with (first | ((with_reducible refine gd 3 rfl ?_); refine bxx 3 #[.slice A0_0 l0_0.length c0_0, .slice A0_1 l0_1.length c0_1] 78 ?_; intro gb794 w27 BK794 GW794 HB) | ((with_reducible refine gd 4 rfl ?_); refine bx 4 #[.int .i64 a1_0, .int .i64 a1_1, .int .i64 a1_2, .string a1_3, .string a1_4, .int .i64 a1_5, .int .i64 a1_6] 156 ?_; intro gb795 hg w28 hbox hb; have BK795 := Aside0.mk (hbox); have GW795 := geS hg; have GE795 := geS hg; have NB794_795 := neS gb794 hg; have NB795_794 := neT gb794 hg; replace BK794 := kb gb794 hb; replace HB := bst hb; clear hb hbox hg; have := NB795_794.out; have := NB794_795.out; obtain ⟨_, _, _, _, _, _, _, _, _, _, _, _, _, _⟩ := cells7 BK795.out; obtain ⟨_, _, _, _⟩ := cells2 BK794.out) | (go_at_call 117; (with_reducible refine (slices_Contains_string_string.calls k _ _ l0_1 a1_4 true _ ?side1 ?side2 A25.out).mono ?_); (case side1 => exact qC); (case side2 => exact HC0_1.out); rintro e w' ⟨rfl, ⟨nd, rfl⟩⟩; (try exact qW)))
   repeat (go_quiet (first | ((with_reducible refine gd 3 rfl ?_); refine bxx 3 #[.slice A0_0 l0_0.length c0_0, .slice A0_1 l0_1.length c0_1] 78 ?_; intro gb794 w27 BK794 GW794 HB) | ((with_reducible refine gd 4 rfl ?_); refine bx 4 #[.int .i64 a1_0, .int .i64 a1_1, .int .i64 a1_2, .string a1_3, .string a1_4, .int .i64 a1_5, .int .i64 a1_6] 156 ?_; intro gb795 hg w28 hbox hb; have BK795 := Aside0.mk (hbox); have GW795 := geS hg; have GE795 := geS hg; have NB794_795 := neS gb794 hg; have NB795_794 := neT gb794 hg; replace BK794 := kb gb794 hb; replace HB := bst hb; clear hb hbox hg; have := NB795_794.out; have := NB794_795.out; obtain ⟨_, _, _, _, _, _, _, _, _, _, _, _, _, _⟩ := cells7 BK795.out; obtain ⟨_, _, _, _⟩ := cells2 BK794.out) | (go_at_call 117; (with_reducible refine (slices_Contains_string_string.calls k _ _ l0_1 a1_4 true _ ?side1 ?side2 A25.out).mono ?_); (case side1 => exact qC); (case side2 => exact HC0_1.out); rintro e w' ⟨rfl, ⟨nd, rfl⟩⟩; (try exact qW))); try go_wp2_with (first | ((with_reducible refine gd 3 rfl ?_); refine bxx 3 #[.slice A0_0 l0_0.length c0_0, .slice A0_1 l0_1.length c0_1] 78 ?_; intro gb794 w27 BK794 GW794 HB) | ((with_reducible refine gd 4 rfl ?_); refine bx 4 #[.int .i64 a1_0, .int .i64 a1_1, .int .i64 a1_2, .string a1_3, .string a1_4, .int .i64 a1_5, .int .i64 a1_6] 156 ?_; intro gb795 hg w28 hbox hb; have BK795 := Aside0.mk (hbox); have GW795 := geS hg; have GE795 := geS hg; have NB794_795 := neS gb794 hg; have NB795_794 := neT gb794 hg; replace BK794 := kb gb794 hb; replace HB := bst hb; clear hb hbox hg; have := NB795_794.out; have := NB794_795.out; obtain ⟨_, _, _, _, _, _, _, _, _, _, _, _, _, _⟩ := cells7 BK795.out; obtain ⟨_, _, _, _⟩ := cells2 BK794.out) | (go_at_call 117; (with_reducible refine (slices_Contains_string_string.calls k _ _ l0_1 a1_4 true _ ?side1 ?side2 A25.out).mono ?_); (case side1 => exact qC); (case side2 => exact HC0_1.out); rintro e w' ⟨rfl, ⟨nd, rfl⟩⟩; (try exact qW))))
   go_ret2
   exact ⟨qR, qB⟩
  replace c26 := Bool.eq_false_iff.mpr c26
  subst c26
  rw [if_neg (show ¬ (false = true) by decide)] at H
  simp only [Option.some.injEq, Prod.mk.injEq] at H
  obtain ⟨rfl, rfl⟩ := H
  go_enter Tryd.func91, Tryd.ntmps91
  go_wp2_with (first | ((with_reducible refine gd 3 rfl ?_); refine bxx 3 #[.slice A0_0 l0_0.length c0_0, .slice A0_1 l0_1.length c0_1] 78 ?_; intro gb794 w32 BK794 GW794 HB) | ((with_reducible refine gd 4 rfl ?_); refine bx 4 #[.int .i64 a1_0, .int .i64 a1_1, .int .i64 a1_2, .string a1_3, .string a1_4, .int .i64 a1_5, .int .i64 a1_6] 156 ?_; intro gb795 hg w33 hbox hb; have BK795 := Aside0.mk (hbox); have GW795 := geS hg; have GE795 := geS hg; have NB794_795 := neS gb794 hg; have NB795_794 := neT gb794 hg; replace BK794 := kb gb794 hb; replace HB := bst hb; clear hb hbox hg; have := NB795_794.out; have := NB794_795.out; obtain ⟨_, _, _, _, _, _, _, _, _, _, _, _, _, _⟩ := cells7 BK795.out; obtain ⟨_, _, _, _⟩ := cells2 BK794.out) | (go_at_call 117; (with_reducible refine (slices_Contains_string_string.calls k _ _ l0_1 a1_4 false _ ?side1 ?side2 A25.out).mono ?_); (case side1 => exact qC); (case side2 => exact HC0_1.out); rintro e w' ⟨rfl, ⟨nd, rfl⟩⟩; (try exact qW)))
  repeat (go_quiet (first | ((with_reducible refine gd 3 rfl ?_); refine bxx 3 #[.slice A0_0 l0_0.length c0_0, .slice A0_1 l0_1.length c0_1] 78 ?_; intro gb794 w32 BK794 GW794 HB) | ((with_reducible refine gd 4 rfl ?_); refine bx 4 #[.int .i64 a1_0, .int .i64 a1_1, .int .i64 a1_2, .string a1_3, .string a1_4, .int .i64 a1_5, .int .i64 a1_6] 156 ?_; intro gb795 hg w33 hbox hb; have BK795 := Aside0.mk (hbox); have GW795 := geS hg; have GE795 := geS hg; have NB794_795 := neS gb794 hg; have NB795_794 := neT gb794 hg; replace BK794 := kb gb794 hb; replace HB := bst hb; clear hb hbox hg; have := NB795_794.out; have := NB794_795.out; obtain ⟨_, _, _, _, _, _, _, _, _, _, _, _, _, _⟩ := cells7 BK795.out; obtain ⟨_, _, _, _⟩ := cells2 BK794.out) | (go_at_call 117; (with_reducible refine (slices_Contains_string_string.calls k _ _ l0_1 a1_4 false _ ?side1 ?side2 A25.out).mono ?_); (case side1 => exact qC); (case side2 => exact HC0_1.out); rintro e w' ⟨rfl, ⟨nd, rfl⟩⟩; (try exact qW))); try go_wp2_with (first | ((with_reducible refine gd 3 rfl ?_); refine bxx 3 #[.slice A0_0 l0_0.length c0_0, .slice A0_1 l0_1.length c0_1] 78 ?_; intro gb794 w32 BK794 GW794 HB) | ((with_reducible refine gd 4 rfl ?_); refine bx 4 #[.int .i64 a1_0, .int .i64 a1_1, .int .i64 a1_2, .string a1_3, .string a1_4, .int .i64 a1_5, .int .i64 a1_6] 156 ?_; intro gb795 hg w33 hbox hb; have BK795 := Aside0.mk (hbox); have GW795 := geS hg; have GE795 := geS hg; have NB794_795 := neS gb794 hg; have NB795_794 := neT gb794 hg; replace BK794 := kb gb794 hb; replace HB := bst hb; clear hb hbox hg; have := NB795_794.out; have := NB794_795.out; obtain ⟨_, _, _, _, _, _, _, _, _, _, _, _, _, _⟩ := cells7 BK795.out; obtain ⟨_, _, _, _⟩ := cells2 BK794.out) | (go_at_call 117; (with_reducible refine (slices_Contains_string_string.calls k _ _ l0_1 a1_4 false _ ?side1 ?side2 A25.out).mono ?_); (case side1 => exact qC); (case side2 => exact HC0_1.out); rintro e w' ⟨rfl, ⟨nd, rfl⟩⟩; (try exact qW))))
  go_ret2
  exact ⟨qR, qB⟩
 rw [if_neg c24] at H
 have c24b0 := beq_eq_false_iff_ne.mpr c24
 have c24b1 := bne_iff_ne.mpr c24
 replace H := iD H
 rcases H with ⟨c37b0, H⟩ | ⟨c37b0, H⟩
 ·by_cases c38 : a1_5 < (l2.length : Int)
  ·rw [if_pos c38] at H
   have c38b0 := decide_eq_true c38
   clear c38
   replace H := iD H
   rcases H with ⟨c39b0, H⟩ | ⟨c39b0, H⟩
   ·by_cases c40 : a1_6 < (l2.length : Int)
    ·rw [if_pos c40] at H; have c40b0 := decide_eq_true c40; clear c40; replace H := Option.bind_eq_some_iff.mp H; obtain ⟨⟨t801, t802⟩, A410, H⟩ := H; (try dsimp -simprocs only at H); have A41 := Aside0.mk A410; clear A410
     by_cases c42 : t802 = true
     ·subst c42; rw [if_pos rfl] at H; simp only [Option.some.injEq, Prod.mk.injEq] at H; obtain ⟨rfl, rfl⟩ := H
      go_enter Tryd.func91, Tryd.ntmps91
      go_wp2_with (first | ((with_reducible refine gd 3 rfl ?_); refine bxx 3 #[.slice A0_0 l0_0.length c0_0, .slice A0_1 l0_1.length c0_1] 78 ?_; intro gb794 w43 BK794 GW794 HB) | ((with_reducible refine gd 4 rfl ?_); refine bx 4 #[.int .i64 a1_0, .int .i64 a1_1, .int .i64 a1_2, .string a1_3, .string a1_4, .int .i64 a1_5, .int .i64 a1_6] 156 ?_; intro gb795 hg w44 hbox hb; have BK795 := Aside0.mk (hbox); have GW795 := geS hg; have GE795 := geS hg; have NB794_795 := neS gb794 hg; have NB795_794 := neT gb794 hg; replace BK794 := kb gb794 hb; replace HB := bst hb; clear hb hbox hg; have := NB795_794.out; have := NB794_795.out; obtain ⟨_, _, _, _, _, _, _, _, _, _, _, _, _, _⟩ := cells7 BK795.out; have p799 : 0 ≤ (a1_5 : Int) := qD; have q799 : a1_5 < (l2.length : Int) := qD; obtain ⟨ad799, e799, hx799_0⟩ := Kd.at_int HR2.out a1_5 p799 q799; cases e799; replace hx799_0 := pw_cell_below HB.out hx799_0; replace p799 := eq_true p799; replace q799 := eq_true q799; have p800 : 0 ≤ (a1_6 : Int) := qD; have q800 : a1_6 < (l2.length : Int) := qD; obtain ⟨ad800, e800, hx800_0⟩ := Kd.at_int HR2.out a1_6 p800 q800; obtain rfl : ad799 = ad800 := (by injection e800); replace hx800_0 := pw_cell_below HB.out hx800_0; replace p800 := eq_true p800; replace q800 := eq_true q800) | (go_at_call 118; (with_reducible refine (val_Result.calls k a1_0 (rd l2 a1_5) (rd l2 a1_6) t801 true _ A41.out).mono ?_); rintro e w' ⟨rfl, ⟨nd, rfl⟩⟩; (try exact qW)))
      repeat (go_quiet (first | ((with_reducible refine gd 3 rfl ?_); refine bxx 3 #[.slice A0_0 l0_0.length c0_0, .slice A0_1 l0_1.length c0_1] 78 ?_; intro gb794 w43 BK794 GW794 HB) | ((with_reducible refine gd 4 rfl ?_); refine bx 4 #[.int .i64 a1_0, .int .i64 a1_1, .int .i64 a1_2, .string a1_3, .string a1_4, .int .i64 a1_5, .int .i64 a1_6] 156 ?_; intro gb795 hg w44 hbox hb; have BK795 := Aside0.mk (hbox); have GW795 := geS hg; have GE795 := geS hg; have NB794_795 := neS gb794 hg; have NB795_794 := neT gb794 hg; replace BK794 := kb gb794 hb; replace HB := bst hb; clear hb hbox hg; have := NB795_794.out; have := NB794_795.out; obtain ⟨_, _, _, _, _, _, _, _, _, _, _, _, _, _⟩ := cells7 BK795.out; have p799 : 0 ≤ (a1_5 : Int) := qD; have q799 : a1_5 < (l2.length : Int) := qD; obtain ⟨ad799, e799, hx799_0⟩ := Kd.at_int HR2.out a1_5 p799 q799; cases e799; replace hx799_0 := pw_cell_below HB.out hx799_0; replace p799 := eq_true p799; replace q799 := eq_true q799; have p800 : 0 ≤ (a1_6 : Int) := qD; have q800 : a1_6 < (l2.length : Int) := qD; obtain ⟨ad800, e800, hx800_0⟩ := Kd.at_int HR2.out a1_6 p800 q800; obtain rfl : ad799 = ad800 := (by injection e800); replace hx800_0 := pw_cell_below HB.out hx800_0; replace p800 := eq_true p800; replace q800 := eq_true q800) | (go_at_call 118; (with_reducible refine (val_Result.calls k a1_0 (rd l2 a1_5) (rd l2 a1_6) t801 true _ A41.out).mono ?_); rintro e w' ⟨rfl, ⟨nd, rfl⟩⟩; (try exact qW))); try go_wp2_with (first | ((with_reducible refine gd 3 rfl ?_); refine bxx 3 #[.slice A0_0 l0_0.length c0_0, .slice A0_1 l0_1.length c0_1] 78 ?_; intro gb794 w43 BK794 GW794 HB) | ((with_reducible refine gd 4 rfl ?_); refine bx 4 #[.int .i64 a1_0, .int .i64 a1_1, .int .i64 a1_2, .string a1_3, .string a1_4, .int .i64 a1_5, .int .i64 a1_6] 156 ?_; intro gb795 hg w44 hbox hb; have BK795 := Aside0.mk (hbox); have GW795 := geS hg; have GE795 := geS hg; have NB794_795 := neS gb794 hg; have NB795_794 := neT gb794 hg; replace BK794 := kb gb794 hb; replace HB := bst hb; clear hb hbox hg; have := NB795_794.out; have := NB794_795.out; obtain ⟨_, _, _, _, _, _, _, _, _, _, _, _, _, _⟩ := cells7 BK795.out; have p799 : 0 ≤ (a1_5 : Int) := qD; have q799 : a1_5 < (l2.length : Int) := qD; obtain ⟨ad799, e799, hx799_0⟩ := Kd.at_int HR2.out a1_5 p799 q799; cases e799; replace hx799_0 := pw_cell_below HB.out hx799_0; replace p799 := eq_true p799; replace q799 := eq_true q799; have p800 : 0 ≤ (a1_6 : Int) := qD; have q800 : a1_6 < (l2.length : Int) := qD; obtain ⟨ad800, e800, hx800_0⟩ := Kd.at_int HR2.out a1_6 p800 q800; obtain rfl : ad799 = ad800 := (by injection e800); replace hx800_0 := pw_cell_below HB.out hx800_0; replace p800 := eq_true p800; replace q800 := eq_true q800) | (go_at_call 118; (with_reducible refine (val_Result.calls k a1_0 (rd l2 a1_5) (rd l2 a1_6) t801 true _ A41.out).mono ?_); rintro e w' ⟨rfl, ⟨nd, rfl⟩⟩; (try exact qW))))
      go_ret2; exact ⟨qR, qB⟩
     replace c42 := Bool.eq_false_iff.mpr c42; subst c42; rw [if_neg (show ¬ (false = true) by decide)] at H; simp only [Option.some.injEq, Prod.mk.injEq] at H; obtain ⟨rfl, rfl⟩ := H
     go_enter Tryd.func91, Tryd.ntmps91
     go_wp2_with (first | ((with_reducible refine gd 3 rfl ?_); refine bxx 3 #[.slice A0_0 l0_0.length c0_0, .slice A0_1 l0_1.length c0_1] 78 ?_; intro gb794 w47 BK794 GW794 HB) | ((with_reducible refine gd 4 rfl ?_); refine bx 4 #[.int .i64 a1_0, .int .i64 a1_1, .int .i64 a1_2, .string a1_3, .string a1_4, .int .i64 a1_5, .int .i64 a1_6] 156 ?_; intro gb795 hg w48 hbox hb; have BK795 := Aside0.mk (hbox); have GW795 := geS hg; have GE795 := geS hg; have NB794_795 := neS gb794 hg; have NB795_794 := neT gb794 hg; replace BK794 := kb gb794 hb; replace HB := bst hb; clear hb hbox hg; have := NB795_794.out; have := NB794_795.out; obtain ⟨_, _, _, _, _, _, _, _, _, _, _, _, _, _⟩ := cells7 BK795.out; have p799 : 0 ≤ (a1_5 : Int) := qD; have q799 : a1_5 < (l2.length : Int) := qD; obtain ⟨ad799, e799, hx799_0⟩ := Kd.at_int HR2.out a1_5 p799 q799; cases e799; replace hx799_0 := pw_cell_below HB.out hx799_0; replace p799 := eq_true p799; replace q799 := eq_true q799; have p800 : 0 ≤ (a1_6 : Int) := qD; have q800 : a1_6 < (l2.length : Int) := qD; obtain ⟨ad800, e800, hx800_0⟩ := Kd.at_int HR2.out a1_6 p800 q800; obtain rfl : ad799 = ad800 := (by injection e800); replace hx800_0 := pw_cell_below HB.out hx800_0; replace p800 := eq_true p800; replace q800 := eq_true q800) | (go_at_call 118; (with_reducible refine (val_Result.calls k a1_0 (rd l2 a1_5) (rd l2 a1_6) t801 false _ A41.out).mono ?_); rintro e w' ⟨rfl, ⟨nd, rfl⟩⟩; (try exact qW)))
     repeat (go_quiet (first | ((with_reducible refine gd 3 rfl ?_); refine bxx 3 #[.slice A0_0 l0_0.length c0_0, .slice A0_1 l0_1.length c0_1] 78 ?_; intro gb794 w47 BK794 GW794 HB) | ((with_reducible refine gd 4 rfl ?_); refine bx 4 #[.int .i64 a1_0, .int .i64 a1_1, .int .i64 a1_2, .string a1_3, .string a1_4, .int .i64 a1_5, .int .i64 a1_6] 156 ?_; intro gb795 hg w48 hbox hb; have BK795 := Aside0.mk (hbox); have GW795 := geS hg; have GE795 := geS hg; have NB794_795 := neS gb794 hg; have NB795_794 := neT gb794 hg; replace BK794 := kb gb794 hb; replace HB := bst hb; clear hb hbox hg; have := NB795_794.out; have := NB794_795.out; obtain ⟨_, _, _, _, _, _, _, _, _, _, _, _, _, _⟩ := cells7 BK795.out; have p799 : 0 ≤ (a1_5 : Int) := qD; have q799 : a1_5 < (l2.length : Int) := qD; obtain ⟨ad799, e799, hx799_0⟩ := Kd.at_int HR2.out a1_5 p799 q799; cases e799; replace hx799_0 := pw_cell_below HB.out hx799_0; replace p799 := eq_true p799; replace q799 := eq_true q799; have p800 : 0 ≤ (a1_6 : Int) := qD; have q800 : a1_6 < (l2.length : Int) := qD; obtain ⟨ad800, e800, hx800_0⟩ := Kd.at_int HR2.out a1_6 p800 q800; obtain rfl : ad799 = ad800 := (by injection e800); replace hx800_0 := pw_cell_below HB.out hx800_0; replace p800 := eq_true p800; replace q800 := eq_true q800) | (go_at_call 118; (with_reducible refine (val_Result.calls k a1_0 (rd l2 a1_5) (rd l2 a1_6) t801 false _ A41.out).mono ?_); rintro e w' ⟨rfl, ⟨nd, rfl⟩⟩; (try exact qW))); try go_wp2_with (first | ((with_reducible refine gd 3 rfl ?_); refine bxx 3 #[.slice A0_0 l0_0.length c0_0, .slice A0_1 l0_1.length c0_1] 78 ?_; intro gb794 w47 BK794 GW794 HB) | ((with_reducible refine gd 4 rfl ?_); refine bx 4 #[.int .i64 a1_0, .int .i64 a1_1, .int .i64 a1_2, .string a1_3, .string a1_4, .int .i64 a1_5, .int .i64 a1_6] 156 ?_; intro gb795 hg w48 hbox hb; have BK795 := Aside0.mk (hbox); have GW795 := geS hg; have GE795 := geS hg; have NB794_795 := neS gb794 hg; have NB795_794 := neT gb794 hg; replace BK794 := kb gb794 hb; replace HB := bst hb; clear hb hbox hg; have := NB795_794.out; have := NB794_795.out; obtain ⟨_, _, _, _, _, _, _, _, _, _, _, _, _, _⟩ := cells7 BK795.out; have p799 : 0 ≤ (a1_5 : Int) := qD; have q799 : a1_5 < (l2.length : Int) := qD; obtain ⟨ad799, e799, hx799_0⟩ := Kd.at_int HR2.out a1_5 p799 q799; cases e799; replace hx799_0 := pw_cell_below HB.out hx799_0; replace p799 := eq_true p799; replace q799 := eq_true q799; have p800 : 0 ≤ (a1_6 : Int) := qD; have q800 : a1_6 < (l2.length : Int) := qD; obtain ⟨ad800, e800, hx800_0⟩ := Kd.at_int HR2.out a1_6 p800 q800; obtain rfl : ad799 = ad800 := (by injection e800); replace hx800_0 := pw_cell_below HB.out hx800_0; replace p800 := eq_true p800; replace q800 := eq_true q800) | (go_at_call 118; (with_reducible refine (val_Result.calls k a1_0 (rd l2 a1_5) (rd l2 a1_6) t801 false _ A41.out).mono ?_); rintro e w' ⟨rfl, ⟨nd, rfl⟩⟩; (try exact qW))))
     go_ret2; exact ⟨qR, qB⟩
    rw [if_neg c40] at H
    exact absurd H (by simp)
   exact absurd H (by simp)
  rw [if_neg c38] at H
  exact absurd H (by simp)
 exact absurd H (by simp)
end Go.Proofs.YtbngfhlciebeeaaDoor.L
end
