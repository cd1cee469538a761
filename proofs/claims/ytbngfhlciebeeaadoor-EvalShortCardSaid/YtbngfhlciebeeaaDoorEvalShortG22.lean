/- Printed and hand-written steps towards the row (EvalShort), those that it reaches. -/
import Derived.Test.YtbngfhlciebeeaaDoorEvalShortG21
import Derived.Test.YtbngfhlciebeeaaDoorEvalShortG18
import Derived.Test.YtbngfhlciebeeaaDoorEvalShortG3
import Derived.Test.YtbngfhlciebeeaaDoorEvalShortG4
import Derived.Test.YtbngfhlciebeeaaDoorEvalShortG15
import Derived.Test.YtbngfhlciebeeaaDoorEvalShortG11
section
namespace Go.Proofs.YtbngfhlciebeeaaDoor.Sp
set_option linter.unusedVariables false
set_option linter.unusedSimpArgs false
open Go.RowKit Go.Proofs.YtbngfhlciebeeaaDoorW.PrintWords Go.Proofs.YtbngfhlciebeeaaDoorW.PrintMore Go.Proofs.YtbngfhlciebeeaaDoor.L
abbrev R4 := Int × Int × ByteArray × Int
def ovR (r : Int) : R4 := if -9223372036854775808 ≤ r ∧ r ≤ 9223372036854775807 then (1, r, ⟨#[]⟩, 0) else (0, 0, ⟨#[]⟩, 21)
theorem ovR_in {r : Int} (h : -9223372036854775808 ≤ r ∧ r ≤ 9223372036854775807) : ovR r = (1, r, ⟨#[]⟩, 0) := if_pos h
theorem ovR_out {r : Int} (h : ¬ (-9223372036854775808 ≤ r ∧ r ≤ 9223372036854775807)) : ovR r = (0, 0, ⟨#[]⟩, 21) := if_neg h
def divR (a b : Int) : R4 := if b = 0 then (0, 0, ⟨#[]⟩, 22) else ovR (Int.tdiv a b)
def remR (a b : Int) : R4 := if b = 0 then (0, 0, ⟨#[]⟩, 22) else (1, Int.tmod a b, ⟨#[]⟩, 0)
theorem over_ok {n : Int} : val_over.f n false = some (1, n, ⟨#[]⟩, 0) := rfl
theorem over_no {n : Int} : val_over.f n true = some (0, 0, ⟨#[]⟩, 21) := rfl
theorem over_d {n r : Int} {p : Bool} (h : p = true → ¬ (-9223372036854775808 ≤ r ∧ r ≤ 9223372036854775807)) (h' : p = false → -9223372036854775808 ≤ r ∧ r ≤ 9223372036854775807 ∧ n = r) : val_over.f n p = some (ovR r) := by
  cases p with
  | true => rw [over_no, ovR_out (h rfl)]
  | false => obtain ⟨h1, h2, h3⟩ := h' rfl; rw [over_ok, ovR_in ⟨h1, h2⟩, h3]
theorem bind4 {o : Option R4} : (o.bind fun bt => (some (bt.1, bt.2.1, bt.2.2.1, bt.2.2.2) : Option R4)) = o := by cases o <;> rfl
section
variable {a b : Int}
theorem vAdd (ha : Opn.I64 a) (hb : Opn.I64 b) (k : Nat) : val_number.f k 6 a b = some (ovR (a + b)) := by
  unfold Opn.I64 at ha hb
  unfold val_number.f
  simp only [bind4]
  rw [if_pos trivial]
  have hw : (wrap64 (a + b) = a + b ∧ -9223372036854775808 ≤ a + b ∧ a + b ≤ 9223372036854775807) ∨ (wrap64 (a + b) = a + b - 18446744073709551616 ∧ a + b > 9223372036854775807) ∨ (wrap64 (a + b) = a + b + 18446744073709551616 ∧ a + b < -9223372036854775808) := by unfold wrap64; omega
  by_cases h1 : b > 0
  · rw [if_pos h1]
    by_cases h2 : wrap64 (a + b) < a
    · rw [if_pos h2]
      exact over_d (fun _ => by omega) (fun h => by cases h)
    · rw [if_neg h2, if_neg (by omega)]
      exact over_d (fun h => by cases h) (fun _ => by omega)
  · rw [if_neg h1]
    by_cases h2 : b < 0
    · rw [if_pos h2]
      exact over_d (fun h => by have := of_decide_eq_true h; omega) (fun h => by have := of_decide_eq_false h; omega)
    · rw [if_neg h2]
      exact over_d (fun h => by cases h) (fun _ => by omega)
theorem vSub (ha : Opn.I64 a) (hb : Opn.I64 b) (k : Nat) : val_number.f k 7 a b = some (ovR (a - b)) := by
  unfold Opn.I64 at ha hb
  unfold val_number.f
  simp only [bind4]
  rw [if_neg (by decide), if_pos trivial]
  have hw : (wrap64 (a - b) = a - b ∧ -9223372036854775808 ≤ a - b ∧ a - b ≤ 9223372036854775807) ∨ (wrap64 (a - b) = a - b - 18446744073709551616 ∧ a - b > 9223372036854775807) ∨ (wrap64 (a - b) = a - b + 18446744073709551616 ∧ a - b < -9223372036854775808) := by unfold wrap64; omega
  by_cases h1 : b < 0
  · rw [if_pos h1]
    by_cases h2 : wrap64 (a - b) < a
    · rw [if_pos h2]
      exact over_d (fun _ => by omega) (fun h => by cases h)
    · rw [if_neg h2, if_neg (by omega)]
      exact over_d (fun h => by cases h) (fun _ => by omega)
  · rw [if_neg h1]
    by_cases h2 : b > 0
    · rw [if_pos h2]
      exact over_d (fun h => by have := of_decide_eq_true h; omega) (fun h => by have := of_decide_eq_false h; omega)
    · rw [if_neg h2]
      exact over_d (fun h => by cases h) (fun _ => by omega)
theorem rSum (ha : Opn.I64 a) (hb : Opn.I64 b) : whirligigref01_sum.f a b = some (ovR (a + b)) := by
  unfold Opn.I64 at ha hb
  unfold whirligigref01_sum.f
  by_cases h1 : b > 0
  · rw [if_pos h1, wrap_at (x := 9223372036854775807 - b) (by omega) (by omega)]
    by_cases h2 : a > 9223372036854775807 - b
    · rw [if_pos h2, ovR_out (by omega)]
    · rw [if_neg h2, if_neg (by omega), wrap_at (by omega) (by omega), ovR_in (by omega)]
  · rw [if_neg h1]
    by_cases h2 : b < 0
    · rw [if_pos h2, wrap_at (x := (-9223372036854775808) - b) (by omega) (by omega)]
      by_cases h3 : a < (-9223372036854775808) - b
      · rw [if_pos h3, ovR_out (by omega)]
      · rw [if_neg h3, wrap_at (by omega) (by omega), ovR_in (by omega)]
    · rw [if_neg h2, wrap_at (by omega) (by omega), ovR_in (by omega)]
theorem rLess (ha : Opn.I64 a) (hb : Opn.I64 b) : whirligigref01_less.f a b = some (ovR (a - b)) := by
  have ha' := ha
  unfold Opn.I64 at ha hb
  unfold whirligigref01_less.f
  simp only [bind4]
  by_cases h1 : b = -9223372036854775808
  · rw [if_pos h1]
    by_cases h2 : a ≥ 0
    · rw [if_pos h2, ovR_out (by omega)]
    · rw [if_neg h2, wrap_at (by omega) (by omega), ovR_in (by omega)]
  · rw [if_neg h1, wrap_at (x := -b) (by omega) (by omega), rSum ha' ⟨by omega, by omega⟩, show a + -b = a - b by omega]
theorem tdiv_abs (h : b ≠ 0) : (Int.tdiv a b).natAbs ≤ a.natAbs := by
  rw [Int.natAbs_tdiv]; exact Nat.div_le_self _ _
theorem tdiv_two (h : 2 ≤ b.natAbs) : (Int.tdiv a b).natAbs * 2 ≤ a.natAbs := by
  rw [Int.natAbs_tdiv]
  calc a.natAbs / b.natAbs * 2 ≤ a.natAbs / b.natAbs * b.natAbs := Nat.mul_le_mul_left _ h
    _ ≤ a.natAbs := Nat.div_mul_le_self _ _
theorem tdiv_in (ha : Opn.I64 a) (hb : Opn.I64 b) (h0 : b ≠ 0) (h1 : ¬ (a = -9223372036854775808 ∧ b = -1)) : -9223372036854775808 ≤ Int.tdiv a b ∧ Int.tdiv a b ≤ 9223372036854775807 := by
  have h2 := tdiv_abs (a := a) h0
  unfold Opn.I64 at ha hb
  by_cases e : a = -9223372036854775808
  · subst e
    by_cases e1 : b = 1
    · subst e1; decide
    · have h3 := tdiv_two (a := -9223372036854775808) (show 2 ≤ b.natAbs by omega)
      omega
  · omega
theorem min_div : Int.tdiv (-9223372036854775808) (-1) = 9223372036854775808 := by decide
theorem vDiv (ha : Opn.I64 a) (hb : Opn.I64 b) (k : Nat) : val_number.f (k + 1) 4 a b = some (divR a b) := by
  have ha' := ha
  have hb' := hb
  unfold Opn.I64 at ha hb
  unfold val_number.f divR
  simp only [bind4]
  rw [if_neg (by decide), if_neg (by decide), if_neg (by decide)]
  by_cases h0 : b = 0
  · rw [if_pos h0, if_pos h0]
  · rw [if_neg h0, if_neg (by decide), if_neg h0]
    simp only [val_number.j0, bind4]
    rw [if_neg (by decide), if_neg (by decide)]
    by_cases h1 : b = -1
    · rw [if_pos h1]
      subst h1
      have hd : Int.tdiv a (-1) = -a := by rw [Int.tdiv_neg, Int.tdiv_one]
      rw [hd]
      by_cases h2 : a = -9223372036854775808
      · exact over_d (fun _ => by omega) (fun h => by rw [beq_eq_false_iff_ne] at h; exact absurd h2 h)
      · exact over_d (fun h => absurd (beq_iff_eq.1 h) h2) (fun _ => ⟨by omega, by omega, wrap_at (by omega) (by omega)⟩)
    · rw [if_neg h1, if_neg h0]
      obtain ⟨h3, h4⟩ := tdiv_in ha' hb' h0 (fun h => h1 h.2)
      rw [ovR_in ⟨h3, h4⟩, wrap_at h3 h4]; rfl
theorem vRem (k : Nat) : val_number.f (k + 1) 5 a b = some (remR a b) := by
  unfold val_number.f remR
  simp only [bind4]
  rw [if_neg (by decide), if_neg (by decide), if_neg (by decide)]
  by_cases h0 : b = 0
  · rw [if_pos h0, if_pos h0]
  · rw [if_neg h0, if_pos trivial, if_neg h0]
    simp only [val_number.j0, bind4]
    by_cases h1 : b = -1
    · subst h1
      rw [if_pos rfl, Int.tmod_neg, Int.tmod_one]; rfl
    · rw [if_neg (by simpa using h1), if_pos trivial, if_neg h0]; rfl
theorem rDiv (ha : Opn.I64 a) (hb : Opn.I64 b) (k : Nat) : whirligigref01_divide.f (k + 1) a b false = some (divR a b) := by
  have ha' := ha
  have hb' := hb
  unfold Opn.I64 at ha hb
  unfold whirligigref01_divide.f divR
  by_cases h0 : b = 0
  · rw [if_pos h0, if_pos h0]
  · rw [if_neg h0, if_neg h0]
    simp only [whirligigref01_divide.j0]
    by_cases h2 : a = -9223372036854775808
    · rw [if_pos h2]
      by_cases h1 : b = -1
      · subst h1 h2
        rw [if_pos (by decide), if_neg (by decide), min_div, ovR_out (by omega)]
      · rw [if_neg (by simpa using h1), if_neg (by decide), if_neg h0]
        obtain ⟨h3, h4⟩ := tdiv_in ha' hb' h0 (fun h => h1 h.2)
        rw [ovR_in ⟨h3, h4⟩, wrap_at h3 h4]
    · rw [if_neg h2, if_neg (by decide), if_neg (by decide), if_neg h0]
      obtain ⟨h3, h4⟩ := tdiv_in ha' hb' h0 (fun h => h2 h.1)
      rw [ovR_in ⟨h3, h4⟩, wrap_at h3 h4]
theorem tmod_in (hb : Opn.I64 b) (h0 : b ≠ 0) : -9223372036854775808 ≤ Int.tmod a b ∧ Int.tmod a b ≤ 9223372036854775807 := by
  unfold Opn.I64 at hb
  have h1 : (Int.tmod a b).natAbs < b.natAbs := by rw [Int.natAbs_tmod]; exact Nat.mod_lt _ (by omega)
  omega
theorem rRem (ha : Opn.I64 a) (hb : Opn.I64 b) (k : Nat) : whirligigref01_divide.f (k + 1) a b true = some (remR a b) := by
  have ha' := ha
  have hb' := hb
  unfold Opn.I64 at ha hb
  unfold whirligigref01_divide.f remR
  by_cases h0 : b = 0
  · rw [if_pos h0, if_pos h0]
  · rw [if_neg h0, if_neg h0]
    simp only [whirligigref01_divide.j0]
    have key : ¬ (a = -9223372036854775808 ∧ b = -1) → wrap64 (a - wrap64 (wrap64 (Int.tdiv a b) * b)) = Int.tmod a b := fun h => by
      obtain ⟨h3, h4⟩ := tdiv_in ha' hb' h0 h
      obtain ⟨h5, h6⟩ := tmod_in (a := a) hb' h0
      rw [wrap_at h3 h4]
      have h7 : Int.tdiv a b * b = a - Int.tmod a b := by have := Int.tmod_add_mul_tdiv a b; rw [Int.mul_comm] at this; omega
      rw [h7]
      have h8 : wrap64 (a - Int.tmod a b) = a - Int.tmod a b ∨ wrap64 (a - Int.tmod a b) = a - Int.tmod a b - 18446744073709551616 ∨ wrap64 (a - Int.tmod a b) = a - Int.tmod a b + 18446744073709551616 := by unfold wrap64; omega
      unfold wrap64 at h8 ⊢
      omega
    by_cases h2 : a = -9223372036854775808
    · rw [if_pos h2]
      by_cases h1 : b = -1
      · subst h1 h2
        rw [if_pos (by decide), if_pos trivial]; rfl
      · rw [if_neg (by simpa using h1), if_pos trivial, if_neg h0, key (fun h => h1 h.2)]
    · rw [if_neg h2, if_neg (by decide), if_pos trivial, if_neg h0, key (fun h => h2 h.1)]
theorem vMul (ha : Opn.I64 a) (hb : Opn.I64 b) (k : Nat) : val_number.f k 3 a b = some (ovR (a * b)) := by
  unfold Opn.I64 at ha hb
  unfold val_number.f
  simp only [bind4]
  rw [if_neg (by decide), if_neg (by decide), if_pos trivial]
  by_cases h1 : a = -1
  · subst h1
    rw [if_pos rfl, show (-1 : Int) * b = -b by omega]
    by_cases h2 : b = -9223372036854775808
    · rw [if_pos h2]
      exact over_d (fun _ => by omega) (fun h => by cases h)
    · rw [if_neg h2]
      have hw : wrap64 (-b) = -b := wrap_at (by omega) (by omega)
      have key : val_over.f (wrap64 (-b)) false = some (ovR (-b)) := over_d (fun h => by cases h) (fun _ => ⟨by omega, by omega, hw⟩)
      repeat' split
      all_goals first | exact key | (rename_i h; exact absurd h (by decide))
  · rw [if_neg h1]
    by_cases h0 : a = 0
    · subst h0
      rw [Int.zero_mul]
      have key : val_over.f (wrap64 0) false = some (ovR 0) := over_d (fun h => by cases h) (fun _ => ⟨by omega, by omega, wrap_at (by omega) (by omega)⟩)
      repeat' split
      all_goals first | exact key | (rename_i h; exact absurd h (by decide))
    · rw [if_neg h0]
      have key : val_over.f (wrap64 (a * b)) (wrap64 (Int.tdiv (wrap64 (a * b)) a) != b) = some (ovR (a * b)) := by
        obtain ⟨m, hm⟩ : ∃ m : Int, wrap64 (a * b) = a * b - m * 18446744073709551616 ∧ -9223372036854775808 ≤ wrap64 (a * b) ∧ wrap64 (a * b) ≤ 9223372036854775807 := ⟨(a * b + 9223372036854775808) / 18446744073709551616, by unfold wrap64; omega⟩
        obtain ⟨hm1, hm2, hm3⟩ := hm
        obtain ⟨h3, h4⟩ := tdiv_in (a := wrap64 (a * b)) (b := a) ⟨hm2, hm3⟩ ⟨ha.1, ha.2⟩ h0 (fun h => h1 h.2)
        rw [wrap_at h3 h4]
        refine over_d (fun h hr => ?_) (fun h => ?_)
        · -- where the product is in range, the quotient is b
          rw [wrap_at hr.1 hr.2] at h
          rw [Int.mul_tdiv_cancel_left b h0] at h
          simp at h
        · rw [bne_eq_false_iff_eq] at h
          have h5 : (Int.tmod (wrap64 (a * b)) a).natAbs < a.natAbs := by rw [Int.natAbs_tmod]; exact Nat.mod_lt _ (by omega)
          have h6 := Int.tmod_add_mul_tdiv (wrap64 (a * b)) a
          rw [h] at h6
          have h7 : m = 0 := by omega
          subst h7
          omega
      by_cases h2 : b = -1
      · rw [if_pos h2]
        by_cases h3 : a = -9223372036854775808
        · rw [if_pos h3]
          exact over_d (fun _ => by subst h2 h3; decide) (fun h => by cases h)
        · rw [if_neg h3]
          exact key
      · rw [if_neg h2]
        exact key
end
theorem half_up {X Y : Nat} (h : Y ≠ 0) : X * Y = X * (Y % 2) + 2 * X * (Y / 2) := by
  have h1 : Y = Y % 2 + 2 * (Y / 2) := by omega
  calc X * Y = X * (Y % 2 + 2 * (Y / 2)) := by rw [← h1]
    _ = X * (Y % 2) + X * (2 * (Y / 2)) := Nat.mul_add _ _ _
    _ = X * (Y % 2) + 2 * X * (Y / 2) := by rw [← Nat.mul_assoc, Nat.mul_comm X 2]
def prodR (t : Nat) : Int × Int × ByteArray := if t ≤ 9223372036854775808 then (1, -(t : Int), ⟨#[]⟩) else (0, 0, ⟨#[]⟩)
theorem product_l0 : ∀ (n X Y O : Nat), Y < n → X ≤ 9223372036854775808 → Y ≤ 9223372036854775808 → O ≤ 9223372036854775808 →
    Ev (fun k => whirligigref01_product.l0 k (-(X : Int)) (-(Y : Int)) (-(O : Int))) (prodR (O + X * Y)) := by
  intro n
  induction n with
  | zero => intro X Y O h; omega
  | succ n ih =>
    intro X Y O hn hX hY hO
    refine Ev.succ ?_
    simp only [whirligigref01_product.l0]
    by_cases h0 : Y = 0
    · subst h0
      refine Ev.pos (by simp) (Ev.some ?_)
      rw [Nat.mul_zero, Nat.add_zero]; unfold prodR; rw [if_pos hO]
    refine Ev.neg (by omega) ?_
    have hdiv : Int.tdiv (-(Y : Int)) 2 = -((Y / 2 : Nat) : Int) := by rw [Int.neg_tdiv]; rfl
    have hmod : Int.tmod (-(Y : Int)) 2 = -((Y % 2 : Nat) : Int) := by rw [Int.neg_tmod]; rfl
    have hw : wrap64 (-((Y / 2 : Nat) : Int)) = -((Y / 2 : Nat) : Int) := wrap_at (by omega) (by omega)
    have hh := half_up (X := X) h0
    have step : ∀ (O' : Nat), O' ≤ 9223372036854775808 → O' = O + X * (Y % 2) → Ev (fun k => whirligigref01_product.j1 k (-(X : Int)) (-(Y : Int)) (-(O' : Int))) (prodR (O + X * Y)) := by
      intro O' hO' he
      refine Ev.succ ?_
      simp only [whirligigref01_product.j1]
      rw [hdiv, hw]
      by_cases h1 : Y / 2 = 0
      · refine Ev.pos (by rw [h1]; rfl) ?_
        have := ih X (Y / 2) O' (by omega) hX (by omega) hO'
        rw [show O' + X * (Y / 2) = O + X * Y by rw [hh, h1, he]; simp] at this
        exact this
      · refine Ev.neg (by omega) ?_
        by_cases h2 : -(X : Int) < -4611686018427387904
        · refine Ev.pos h2 (Ev.some ?_)
          have h3 : 2 * X * 1 ≤ 2 * X * (Y / 2) := Nat.mul_le_mul_left _ (by omega)
          unfold prodR
          rw [if_neg (by omega)]
        · refine Ev.neg h2 ?_
          have := ih (2 * X) (Y / 2) O' (by omega) (by omega) (by omega) hO'
          rw [show O' + 2 * X * (Y / 2) = O + X * Y by rw [hh, he]; omega] at this
          rw [show wrap64 (2 * -(X : Int)) = -((2 * X : Nat) : Int) by rw [wrap_at (by omega) (by omega)]; omega]
          exact this
    rw [hmod]
    rcases (show Y % 2 = 0 ∨ Y % 2 = 1 by omega) with e | e
    · exact Ev.pos (by rw [e]; rfl) (step O hO (by rw [e]; simp))
    · refine Ev.neg (by rw [e]; decide) ?_
      rw [wrap_at (x := -9223372036854775808 - -(X : Int)) (by omega) (by omega)]
      rw [e, Nat.mul_one] at hh
      by_cases h2 : -(O : Int) < -9223372036854775808 - -(X : Int)
      · refine Ev.pos h2 (Ev.some ?_)
        unfold prodR
        rw [if_neg (by omega)]
      · refine Ev.neg h2 ?_
        rw [show wrap64 (-(O : Int) + -(X : Int)) = -((O + X : Nat) : Int) by rw [wrap_at (by omega) (by omega)]; omega]
        exact step (O + X) (by omega) (by rw [e, Nat.mul_one])
theorem product_ev (X Y : Nat) (hX : X ≤ 9223372036854775808) (hY : Y ≤ 9223372036854775808) : Ev (fun k => whirligigref01_product.f k (-(X : Int)) (-(Y : Int))) (prodR (X * Y)) := by
  unfold whirligigref01_product.f
  have := product_l0 (Y + 1) X Y 0 (by omega) hX hY (by omega)
  rw [Nat.zero_add] at this
  exact this
theorem mul_abs (a b : Int) : ((decide (a < 0)) == (decide (b < 0))) = true ∧ a * b = ((a.natAbs * b.natAbs : Nat) : Int) ∨ ((decide (a < 0)) == (decide (b < 0))) = false ∧ a * b = -((a.natAbs * b.natAbs : Nat) : Int) := by
  have h : ∀ x : Int, x < 0 ∧ x = -(x.natAbs : Int) ∨ 0 ≤ x ∧ x = (x.natAbs : Int) := fun x => by omega
  rw [Int.natCast_mul]
  rcases h a with ⟨a1, a2⟩ | ⟨a1, a2⟩ <;> rcases h b with ⟨b1, b2⟩ | ⟨b1, b2⟩
  · refine Or.inl ⟨by rw [decide_eq_true a1, decide_eq_true b1]; rfl, ?_⟩
    generalize a.natAbs = X at *; generalize b.natAbs = Y at *
    rw [a2, b2, Int.neg_mul_neg]
  · refine Or.inr ⟨by rw [decide_eq_true a1, decide_eq_false (by omega)]; rfl, ?_⟩
    generalize a.natAbs = X at *; generalize b.natAbs = Y at *
    rw [a2, b2, Int.neg_mul]
  · refine Or.inr ⟨by rw [decide_eq_false (by omega), decide_eq_true b1]; rfl, ?_⟩
    generalize a.natAbs = X at *; generalize b.natAbs = Y at *
    rw [a2, b2, Int.mul_neg]
  · refine Or.inl ⟨by rw [decide_eq_false (by omega), decide_eq_false (by omega)]; rfl, ?_⟩
    generalize a.natAbs = X at *; generalize b.natAbs = Y at *
    rw [a2, b2]
theorem times_ev {a b : Int} (ha : Opn.I64 a) (hb : Opn.I64 b) : Ev (fun k => whirligigref01_times.f k a b) (ovR (a * b)) := by
  unfold Opn.I64 at ha hb
  have hab := mul_abs a b
  -- behind the two numbers without their signs
  have hj2 : ∀ p : Bool, (p = true → 9223372036854775808 < a.natAbs * b.natAbs) → Ev (fun k => whirligigref01_times.j2 k a b (-(a.natAbs : Int)) (-(b.natAbs : Int)) p) (ovR (a * b)) := by
    intro p hp
    refine Ev.succ ?_
    simp only [whirligigref01_times.j2]
    cases p with
    | true =>
      have := hp rfl
      exact Ev.pos rfl (Ev.some (ovR_out (by rcases hab with ⟨_, h⟩ | ⟨_, h⟩ <;> omega)).symm)
    | false =>
      refine Ev.neg (by decide) (Ev.bind (product_ev a.natAbs b.natAbs (by omega) (by omega)) ?_)
      by_cases ht : a.natAbs * b.natAbs ≤ 9223372036854775808
      · rw [show prodR (a.natAbs * b.natAbs) = (1, -((a.natAbs * b.natAbs : Nat) : Int), ⟨#[]⟩) from if_pos ht]
        refine Ev.neg (by dsimp only; omega) (Ev.succ ?_)
        simp only [whirligigref01_times.j3]
        refine Ev.neg (by decide) ?_
        rcases hab with ⟨h1, h2⟩ | ⟨h1, h2⟩
        · refine Ev.pos h1 ?_
          by_cases h3 : -((a.natAbs * b.natAbs : Nat) : Int) = -9223372036854775808
          · exact Ev.pos h3 (Ev.some (ovR_out (by omega)).symm)
          · refine Ev.neg h3 (Ev.some ?_)
            rw [ovR_in (by omega), wrap_at (by omega) (by omega), h2]
            simp
        · refine Ev.neg (by rw [h1]; decide) (Ev.some ?_)
          rw [ovR_in (by omega), h2]
      · rw [show prodR (a.natAbs * b.natAbs) = (0, 0, ⟨#[]⟩) from if_neg ht]
        refine Ev.neg (by decide) (Ev.succ ?_)
        simp only [whirligigref01_times.j3]
        exact Ev.pos rfl (Ev.some (ovR_out (by rcases hab with ⟨_, h⟩ | ⟨_, h⟩ <;> omega)).symm)
  have hj1 : Ev (fun k => whirligigref01_times.j1 k a b (-(a.natAbs : Int)) (-(b.natAbs : Int))) (ovR (a * b)) := by
    refine Ev.succ ?_
    simp only [whirligigref01_times.j1]
    by_cases h0 : -(a.natAbs : Int) = 0
    · exact Ev.pos h0 (hj2 false (fun h => by cases h))
    · refine Ev.neg h0 ?_
      obtain ⟨d, hd, hd0, hdX, hdm⟩ : ∃ d : Nat, mx (-(a.natAbs : Int)) (-9223372036854775807) = -(d : Int) ∧ 0 < d ∧ d ≤ a.natAbs ∧ d ≤ 9223372036854775807 := by
        unfold mx
        by_cases h : -(a.natAbs : Int) < -9223372036854775807
        · exact ⟨9223372036854775807, by rw [if_pos h]; rfl, by omega, by omega, by omega⟩
        · exact ⟨a.natAbs, by rw [if_neg h], by omega, by omega, by omega⟩
      have hw : wrap64 (-(-(d : Int))) = (d : Int) := by rw [wrap_at (by omega) (by omega)]; omega
      rw [hd, hw]
      have hq : Int.tdiv (-9223372036854775807) (d : Int) = -((9223372036854775807 / d : Nat) : Int) := by
        rw [show (-9223372036854775807 : Int) = -((9223372036854775807 : Nat) : Int) from rfl, Int.neg_tdiv]; rfl
      have hqle : 9223372036854775807 / d ≤ 9223372036854775807 := Nat.div_le_self _ _
      have h3 : 9223372036854775807 < d * (9223372036854775807 / d + 1) := Nat.lt_mul_div_succ _ hd0
      rw [hq]
      generalize 9223372036854775807 / d = q at hqle h3 ⊢
      rw [wrap_at (x := -(q : Int)) (by omega) (by omega), wrap_at (x := -(q : Int) - 1) (by omega) (by omega)]
      refine Ev.neg (by omega) (hj2 _ (fun h => ?_))
      have h1 := of_decide_eq_true h
      have h2 : q + 2 ≤ b.natAbs := by omega
      calc 9223372036854775808 ≤ d * (q + 1) := h3
        _ < d * (q + 2) := Nat.mul_lt_mul_of_pos_left (by omega) hd0
        _ ≤ a.natAbs * b.natAbs := Nat.mul_le_mul hdX h2
  have hneg : ∀ x : Int, -9223372036854775808 ≤ x ∧ x ≤ 9223372036854775807 → x ≠ -9223372036854775808 → mn x (wrap64 (-x)) = -(x.natAbs : Int) := fun x hx h => by
    rw [wrap_at (by omega) (by omega)]
    unfold mn
    split <;> omega
  have hj0 : ∀ y : Int, (b ≠ -9223372036854775808 → y = -(b.natAbs : Int)) → Ev (fun k => whirligigref01_times.j0 k a b (-(a.natAbs : Int)) y) (ovR (a * b)) := fun y hy => by
    refine Ev.succ ?_
    simp only [whirligigref01_times.j0]
    by_cases h : b = -9223372036854775808
    · refine Ev.pos h ?_
      have : b = -(b.natAbs : Int) := by omega
      rw [← this] at hj1
      exact hj1
    · rw [hy h]
      exact Ev.neg h hj1
  unfold whirligigref01_times.f
  by_cases h : a = -9223372036854775808
  · refine Ev.pos h ?_
    have := hj0 (mn b (wrap64 (-b))) (fun hb' => hneg b hb hb')
    have e : a = -(a.natAbs : Int) := by omega
    rw [← e] at this
    exact this
  · refine Ev.neg h ?_
    rw [hneg a ha h]
    exact hj0 _ (fun hb' => hneg b hb hb')
end Go.Proofs.YtbngfhlciebeeaaDoor.Sp
end
section
namespace Go.Proofs.YtbngfhlciebeeaaDoor.L
open Go.RowKit Go.Proofs.YtbngfhlciebeeaaDoorW.PrintWords Go.Proofs.YtbngfhlciebeeaaDoorW.PrintLast Go.Proofs.YtbngfhlciebeeaaDoorW.PrintMore
attribute [local go_sem] max2_int min2_int max_two min_two max_three min_three max_four min_four   -- for this text's walks alone
set_option linter.unusedVariables false
set_option linter.unusedSimpArgs false
def kind_Scope_node.f (k : Nat) (l0_0 : List (S118)) (l0_1 : List ByteArray) (a1_0 : Int) (a1_1 : Int) (a1_2 : Int) (a1_3 : ByteArray) (a1_4 : ByteArray) (a1_5 : Int) (a1_6 : Int) (l2 : List Int) : Option (Int × Int) := if a1_0 = 0 then (some (a1_1, 0)) else (if a1_0 = 16 then ((kind_Scope_find.f l0_0 l0_1 a1_4).bind fun bt796 => (if bt796.2 = true then (some (bt796.1, 0)) else (some (0, 24)))) else (if a1_0 = 17 then ((slices_Contains_string_string.f k l0_1 a1_4).bind fun t798 => (if t798 = true then (some (2, 0)) else (some (0, 24)))) else (if 0 ≤ a1_5 then (if a1_5 < (l2.length : Int) then (if 0 ≤ a1_6 then (if a1_6 < (l2.length : Int) then ((val_Result.f k a1_0 (rd l2 a1_5) (rd l2 a1_6)).bind fun bt801 => (if bt801.2 = true then (some (bt801.1, 0)) else (some (0, 20)))) else (none)) else (none)) else (none)) else (none))))
def kind_Of.l0 : Nat → List (S156) → List Int → List (S156) → Int → Int → List (S118) → List ByteArray → Option (Int × Int)
 | 0, _, _, _, _, _, _, _ => none
 | k + 1, x0, x6, x17, x18, x19, x804000, x804001 => if x19 < x18 then (if 0 ≤ x19 then (if x19 < (x17.length : Int) then ((kind_Scope_node.f k x804000 x804001 ((rd_T156 x17 x19).f0) ((rd_T156 x17 x19).f1.f0) ((rd_T156 x17 x19).f1.f1) ((rd_T156 x17 x19).f1.f2) ((rd_T156 x17 x19).f2) ((rd_T156 x17 x19).f3) ((rd_T156 x17 x19).f4) x6).bind fun bt810 => (if bt810.2 = 0 then (if x19 < (x6.length : Int) then (kind_Of.l0 k x0 (x6.set (x19 : Int).toNat bt810.1) x17 x18 (wrap64 (x19 + 1)) x804000 x804001) else (none)) else (some (0, bt810.2)))) else (none)) else (none)) else (if 0 ≤ (wrap64 ((x0.length : Int) - 1)) then (if (wrap64 ((x0.length : Int) - 1)) < (x6.length : Int) then (some (rd x6 (wrap64 ((x0.length : Int) - 1)), 0)) else (none)) else (none))
mutual
def whirligigref01_Result.j0 : Nat → Int → Int → Int → Bool → Option (Int)
 | 0, _, _, _, _ => none
 | k + 1, x0, x1, x2, x12 => if x12 = true then (some 2) else (if x0 = 2 then (whirligigref01_Result.j1 k x0 x1 x2 (x1 == 1)) else (whirligigref01_Result.j1 k x0 x1 x2 false))
def whirligigref01_Result.j1 : Nat → Int → Int → Int → Bool → Option (Int)
 | 0, _, _, _, _ => none
 | k + 1, x0, x1, x2, x18 => if x18 = true then (some 1) else (if x0 < 3 then (whirligigref01_Result.j2 k x0 x1 true) else (if x0 > 15 then (whirligigref01_Result.j2 k x0 x1 true) else (if x1 = x2 then (if x1 < 1 then (whirligigref01_Result.j2 k x0 x1 true) else (whirligigref01_Result.j2 k x0 x1 (decide (x1 > 3)))) else (whirligigref01_Result.j2 k x0 x1 true))))
def whirligigref01_Result.j2 : Nat → Int → Int → Bool → Option (Int)
 | 0, _, _, _ => none
 | k + 1, x0, x1, x37 => if x37 = true then (some 0) else (if x0 ≥ 14 then (if x1 = 2 then (whirligigref01_Result.j3 k x0 x1 true) else (if x0 = 12 then (whirligigref01_Result.j3 k x0 x1 true) else (whirligigref01_Result.j3 k x0 x1 (x0 == 13)))) else (if x0 = 12 then (whirligigref01_Result.j3 k x0 x1 true) else (whirligigref01_Result.j3 k x0 x1 (x0 == 13))))
def whirligigref01_Result.j3 : Nat → Int → Int → Bool → Option (Int)
 | 0, _, _, _ => none
 | k + 1, x0, x1, x51 => if x51 = true then (some 2) else (if x0 ≥ 8 then (if x0 ≤ 11 then (whirligigref01_Result.j4 k x0 x1 (x1 != 2)) else (whirligigref01_Result.j4 k x0 x1 false)) else (whirligigref01_Result.j4 k x0 x1 false))
def whirligigref01_Result.j4 : Nat → Int → Int → Bool → Option (Int)
 | 0, _, _, _ => none
 | k + 1, x0, x1, x61 => if x61 = true then (some 2) else (if x0 = 6 then (whirligigref01_Result.j5 k x0 x1 (x1 == 3)) else (whirligigref01_Result.j5 k x0 x1 false))
def whirligigref01_Result.j5 : Nat → Int → Int → Bool → Option (Int)
 | 0, _, _, _ => none
 | k + 1, x0, x1, x67 => if x67 = true then (some 3) else (if x0 ≥ 3 then (if x0 ≤ 7 then (if x1 = 1 then (some 1) else (some 0)) else (some 0)) else (some 0))
end
def whirligigref01_Result.f (k : Nat) (a0 : Int) (a1 : Int) (a2 : Int) : Option (Int) := if a0 = 1 then (whirligigref01_Result.j0 k a0 a1 a2 (a1 == 2)) else (whirligigref01_Result.j0 k a0 a1 a2 false)
mutual
def whirligigref04_Of.l0 : Nat → Int → List (S151) → Int → Int → Int → Int → ByteArray → ByteArray → Int → Int → Option (Int × Int × Int)
 | 0, _, _, _, _, _, _, _, _, _, _ => none
 | k + 1, x1, x2, x12, x873000, x873001, x873002, x873003, x873004, x873005, x873006 => if x12 < (x2.length : Int) then (if 0 ≤ x12 then (if ((rd_T151 x2 x12).f0).toList = x873004.toList then (some ((rd_T151 x2 x12).f1, 0, 0)) else (whirligigref04_Of.l0 k x1 x2 (wrap64 (x12 + 1)) x873000 x873001 x873002 x873003 x873004 x873005 x873006)) else (none)) else (some (0, 24, x1))
def whirligigref04_Of.l1 : Nat → Int → List ByteArray → Int → Int → Int → Int → ByteArray → ByteArray → Int → Int → Option (Int × Int × Int)
 | 0, _, _, _, _, _, _, _, _, _, _ => none
 | k + 1, x1, x3, x13, x873000, x873001, x873002, x873003, x873004, x873005, x873006 => if x13 < (x3.length : Int) then (if 0 ≤ x13 then (if (rdOf ByteArray.empty x3 x13).toList = x873004.toList then (some (2, 0, 0)) else (whirligigref04_Of.l1 k x1 x3 (wrap64 (x13 + 1)) x873000 x873001 x873002 x873003 x873004 x873005 x873006)) else (none)) else (some (0, 24, x1))
def whirligigref04_Of.j2 : Nat → List (S159) → Int → List (S151) → List ByteArray → Int → Int → Int → Int → Bool → Int → Int → Int → ByteArray → ByteArray → Int → Int → Option (Int × Int × Int)
 | 0, _, _, _, _, _, _, _, _, _, _, _, _, _, _, _, _ => none
 | k + 1, x0, x1, x2, x3, x14, x15, x16, x17, x85, x873000, x873001, x873002, x873003, x873004, x873005, x873006 => if x85 = true then ((whirligigref04_Of.f k x0 x873006 x2 x3).bind fun bt879 => (whirligigref04_Of.j3 k x1 x14 bt879.2.1 bt879.2.2 bt879.1 x873000 x873001 x873002 x873003 x873004 x873005 x873006)) else (whirligigref04_Of.j3 k x1 x14 x15 x16 x17 x873000 x873001 x873002 x873003 x873004 x873005 x873006)
def whirligigref04_Of.j3 : Nat → Int → Int → Int → Int → Int → Int → Int → Int → ByteArray → ByteArray → Int → Int → Option (Int × Int × Int)
 | 0, _, _, _, _, _, _, _, _, _, _, _, _ => none
 | k + 1, x1, x14, x15, x16, x17, x873000, x873001, x873002, x873003, x873004, x873005, x873006 => if x15 = 0 then ((whirligigref01_Result.f k x873000 x14 x17).bind fun t882 => (if t882 = 0 then (some (0, 20, x1)) else (some (t882, 0, 0)))) else (some (0, x15, x16))
def whirligigref04_Of.f : Nat → List (S159) → Int → List (S151) → List ByteArray → Option (Int × Int × Int)
 | 0, _, _, _, _ => none
 | k + 1, l0, a1, l2, l3 => if 0 ≤ a1 then (if a1 < (l0.length : Int) then (if ((rd_T159 l0 a1).f0) = 0 then (some ((rd_T159 l0 a1).f1.f0, 0, 0)) else (if ((rd_T159 l0 a1).f0) = 16 then (whirligigref04_Of.l0 k a1 l2 0 ((rd_T159 l0 a1).f0) ((rd_T159 l0 a1).f1.f0) ((rd_T159 l0 a1).f1.f1) ((rd_T159 l0 a1).f1.f2) ((rd_T159 l0 a1).f2) ((rd_T159 l0 a1).f3) ((rd_T159 l0 a1).f4)) else (if ((rd_T159 l0 a1).f0) = 17 then (whirligigref04_Of.l1 k a1 l3 0 ((rd_T159 l0 a1).f0) ((rd_T159 l0 a1).f1.f0) ((rd_T159 l0 a1).f1.f1) ((rd_T159 l0 a1).f1.f2) ((rd_T159 l0 a1).f2) ((rd_T159 l0 a1).f3) ((rd_T159 l0 a1).f4)) else ((whirligigref04_Of.f k l0 ((rd_T159 l0 a1).f3) l2 l3).bind fun bt876 => (if bt876.2.1 = 0 then (whirligigref04_Of.j2 k l0 a1 l2 l3 bt876.1 bt876.2.1 bt876.2.2 0 (decide (((rd_T159 l0 a1).f0) > 2)) ((rd_T159 l0 a1).f0) ((rd_T159 l0 a1).f1.f0) ((rd_T159 l0 a1).f1.f1) ((rd_T159 l0 a1).f1.f2) ((rd_T159 l0 a1).f2) ((rd_T159 l0 a1).f3) ((rd_T159 l0 a1).f4)) else (whirligigref04_Of.j2 k l0 a1 l2 l3 bt876.1 bt876.2.1 bt876.2.2 0 false ((rd_T159 l0 a1).f0) ((rd_T159 l0 a1).f1.f0) ((rd_T159 l0 a1).f1.f1) ((rd_T159 l0 a1).f1.f2) ((rd_T159 l0 a1).f2) ((rd_T159 l0 a1).f3) ((rd_T159 l0 a1).f4))))))) else (none)) else (none)
end
end Go.Proofs.YtbngfhlciebeeaaDoor.L
end
section
namespace Go.Proofs.YtbngfhlciebeeaaDoor.Sp
set_option linter.unusedVariables false
set_option linter.unusedSimpArgs false
open Go.RowKit Go.Proofs.YtbngfhlciebeeaaDoorW.PrintWords Go.Proofs.YtbngfhlciebeeaaDoorW.PrintMore Go.Proofs.YtbngfhlciebeeaaDoor.L
def resK (op a b : Int) : Int :=
  if op = 1 then (if a = 2 then 2 else 0)
  else if op = 2 then (if a = 1 then 1 else 0)
  else if op = 6 then (if a = b ∧ (a = 1 ∨ a = 3) then a else 0)
  else if op ≤ 7 then (if a = 1 ∧ b = 1 then 1 else 0)
  else if op ≤ 11 then (if a = b ∧ (a = 1 ∨ a = 3) then 2 else 0)
  else if op ≤ 13 then (if a = b ∧ 1 ≤ a ∧ a ≤ 3 then 2 else 0)
  else if a = 2 ∧ b = 2 then 2 else 0
theorem op_cases {op : Int} (h : 1 ≤ op ∧ op ≤ 15) : op = 1 ∨ op = 2 ∨ op = 3 ∨ op = 4 ∨ op = 5 ∨ op = 6 ∨ op = 7 ∨ op = 8 ∨ op = 9 ∨ op = 10 ∨ op = 11 ∨ op = 12 ∨ op = 13 ∨ op = 14 ∨ op = 15 := by omega
def vres (op a b : Int) : Int × Bool :=
  if op = 1 then (2, a == 2)
  else if op = 2 then (1, a == 1)
  else if op = 6 then (if a = b then (if a = 1 then (a, true) else (a, a == 3)) else (a, false))
  else if op ≤ 7 then (if a = 1 then (1, b == 1) else (1, false))
  else if op ≤ 11 then (if a = b then (if a = 1 then (2, true) else (2, a == 3)) else (2, false))
  else if op ≤ 13 then (if a = b then (if a ≥ 1 then (2, decide (a ≤ 3)) else (2, false)) else (2, false))
  else (if a = 2 then (2, b == 2) else (2, false))
theorem vResult_f {op : Int} (h : 1 ≤ op ∧ op ≤ 15) (a b : Int) (k : Nat) : val_Result.f (k + 3) op a b = some (vres op a b) := by
  rcases op_cases h with rfl | rfl | rfl | rfl | rfl | rfl | rfl | rfl | rfl | rfl | rfl | rfl | rfl | rfl | rfl
  all_goals (simp [val_Result.f, val_Result.j0, val_Result.j1, val_Result.j2, vres])
  all_goals (repeat' split)
  all_goals (first | rfl | (simp_all; done))
theorem vres_is {op : Int} (h : 1 ≤ op ∧ op ≤ 15) (a b : Int) : ((vres op a b).2 = true → (vres op a b).1 = resK op a b ∧ resK op a b ≠ 0) ∧ ((vres op a b).2 = false → resK op a b = 0) := by
  rcases op_cases h with rfl | rfl | rfl | rfl | rfl | rfl | rfl | rfl | rfl | rfl | rfl | rfl | rfl | rfl | rfl
  all_goals (simp [vres, resK])
  all_goals (repeat' split)
  all_goals (simp_all)
  all_goals (first | omega | (intros; omega) | (constructor <;> intros <;> omega))
theorem vResult_ev {op : Int} (h : 1 ≤ op ∧ op ≤ 15) (a b : Int) : Ev (fun k => val_Result.f k op a b) (vres op a b) := ⟨3, fun k hk => by obtain ⟨j, rfl⟩ : ∃ j, k = j + 3 := ⟨k - 3, by omega⟩; exact vResult_f h a b j⟩
theorem rResult_f {op : Int} (h : 1 ≤ op ∧ op ≤ 15) (a b : Int) (k : Nat) : whirligigref01_Result.f (k + 6) op a b = some (resK op a b) := by
  rcases op_cases h with rfl | rfl | rfl | rfl | rfl | rfl | rfl | rfl | rfl | rfl | rfl | rfl | rfl | rfl | rfl
  all_goals (simp [whirligigref01_Result.f, whirligigref01_Result.j0, whirligigref01_Result.j1, whirligigref01_Result.j2, whirligigref01_Result.j3, whirligigref01_Result.j4, whirligigref01_Result.j5, resK])
  all_goals (repeat' split)
  all_goals (simp_all)
  all_goals (first | omega | (intros; omega))
theorem rResult_ev {op : Int} (h : 1 ≤ op ∧ op ≤ 15) (a b : Int) : Ev (fun k => whirligigref01_Result.f k op a b) (resK op a b) := ⟨6, fun k hk => by obtain ⟨j, rfl⟩ : ∃ j, k = j + 6 := ⟨k - 6, by omega⟩; exact rResult_f h a b j⟩
def ref159 (x : S156) : S159 := ⟨x.f0, ⟨x.f1.f0, x.f1.f1, x.f1.f2⟩, x.f2, x.f3, x.f4⟩
def v151 (x : S118) : S151 := ⟨x.f0, x.f1⟩
theorem rd159 {l : List S156} {j : Nat} (h : j < l.length) : rd_T159 (l.map ref159) (j : Int) = ref159 l[j] := by
  unfold rd_T159
  rw [Int.toNat_natCast, List.getD_eq_getElem?_getD, List.getElem?_map, List.getElem?_eq_getElem h]
  rfl
theorem rd151 {l : List S118} {j : Nat} (h : j < l.length) : rd_T151 (l.map v151) (j : Int) = v151 l[j] := by
  unfold rd_T151
  rw [Int.toNat_natCast, List.getD_eq_getElem?_getD, List.getElem?_map, List.getElem?_eq_getElem h]
  rfl
theorem rd118' {l : List S118} {j : Nat} (h : j < l.length) : rd_T118 l (j : Int) = l[j] := by
  unfold rd_T118
  rw [Int.toNat_natCast, List.getD_eq_getElem?_getD, List.getElem?_eq_getElem h]
  rfl
def lookV (s : ByteArray) : List S118 → Option Int
  | [] => none
  | v :: vs => if v.f0 = s then some v.f1 else lookV s vs
theorem lookV_idx (s : ByteArray) : ∀ (vs : List S118), (match vs.findIdx? (fun x => decide (x.f0 = s)) with | some j => j < vs.length ∧ lookV s vs = some (vs.getD j ⟨⟨#[]⟩, 0⟩).f1 | none => lookV s vs = none)
  | [] => rfl
  | v :: vs => by
    have ih := lookV_idx s vs
    rw [List.findIdx?_cons]
    by_cases h : v.f0 = s
    · rw [decide_eq_true h]
      simp only [if_true]
      exact ⟨by simp, by simp [lookV, h]⟩
    · rw [decide_eq_false h]
      simp only [Bool.false_eq_true, if_false]
      cases hx : vs.findIdx? (fun x => decide (x.f0 = s)) with
      | none => rw [hx] at ih; simp [lookV, h]; exact ih
      | some j =>
        rw [hx] at ih
        simp only [Option.map_some, lookV, if_neg h]
        exact ⟨by simp; exact ih.1, by simpa using ih.2⟩
theorem find_eq (vs : List S118) (ss : List ByteArray) (s : ByteArray) : kind_Scope_find.f vs ss s = some (match lookV s vs with | some k => (k, true) | none => (0, false)) := by
  have h := lookV_idx s vs
  unfold kind_Scope_find.f
  cases hx : vs.findIdx? (fun x => decide (x.f0 = s)) with
  | none =>
    rw [hx] at h
    have : idxVar s vs = -1 := by unfold idxVar; rw [hx]
    rw [this, h]; rfl
  | some j =>
    rw [hx] at h
    have : idxVar s vs = (j : Int) := by unfold idxVar; rw [hx]
    obtain ⟨h1, h2⟩ := h
    rw [this, if_pos (by omega), rd118' h1, h2, List.getD_eq_getElem?_getD]
    simp only [List.getElem?_eq_getElem h1]
    rfl
theorem rfind_l0 (i : Int) (vs : List S118) (hv : vs.length ≤ 1000) (x : S156) : ∀ (d j : Nat), j ≤ vs.length → vs.length - j = d →
    Ev (fun k => whirligigref04_Of.l0 k i (vs.map v151) (j : Int) x.f0 x.f1.f0 x.f1.f1 x.f1.f2 x.f2 x.f3 x.f4) (match lookV x.f2 (vs.drop j) with | some k => (k, 0, 0) | none => (0, 24, i)) := by
  intro d
  induction d with
  | zero =>
    intro j hj hd
    refine Ev.succ ?_
    simp only [whirligigref04_Of.l0]
    rw [List.drop_eq_nil_of_le (by omega)]
    exact Ev.neg (by simp; omega) (Ev.some rfl)
  | succ d ih =>
    intro j hj hd
    have hjl : j < vs.length := by omega
    refine Ev.succ ?_
    simp only [whirligigref04_Of.l0]
    rw [rd151 hjl, up1 (by omega), List.drop_eq_getElem_cons hjl]
    refine Ev.pos (by simp; omega) (Ev.pos (by omega) ?_)
    by_cases h : vs[j].f0 = x.f2
    · simp only [lookV, if_pos h]
      exact Ev.pos (toL_inj.2 h) (Ev.some rfl)
    · simp only [lookV, if_neg h]
      exact Ev.neg (fun e => h (toL_inj.1 e)) (ih (j + 1) (by omega) (by omega))
theorem rdB {l : List ByteArray} {j : Nat} (h : j < l.length) : rdOf ByteArray.empty l (j : Int) = l[j] := by
  unfold rdOf
  rw [Int.toNat_natCast, List.getD_eq_getElem?_getD, List.getElem?_eq_getElem h]; rfl
def hasS (s : ByteArray) (ss : List ByteArray) : Bool := ss.any fun x => decide (x = s)
theorem hasS_cons (s x : ByteArray) (ss : List ByteArray) : hasS s (x :: ss) = (decide (x = s) || hasS s ss) := rfl
theorem index_l0 (ss : List ByteArray) (hs : ss.length ≤ 8796093022208) (s : ByteArray) : ∀ (d j : Nat), j ≤ ss.length → ss.length - j = d →
    ∃ r, Ev (fun k => slices_Index_string_string.l0 k ss s (ss.length : Int) (j : Int)) r ∧ decide (r ≥ 0) = hasS s (ss.drop j) := by
  intro d
  induction d with
  | zero =>
    intro j hj hd
    refine ⟨-1, Ev.succ ?_, ?_⟩
    · simp only [slices_Index_string_string.l0]
      exact Ev.neg (by omega) (Ev.some rfl)
    · rw [List.drop_eq_nil_of_le (by omega)]; rfl
  | succ d ih =>
    intro j hj hd
    have hjl : j < ss.length := by omega
    obtain ⟨r, hr, hd'⟩ := ih (j + 1) (by omega) (by omega)
    by_cases h : s = ss[j]
    · refine ⟨(j : Int), Ev.succ ?_, ?_⟩
      · simp only [slices_Index_string_string.l0]
        rw [rdB hjl]
        exact Ev.pos (by omega) (Ev.pos (by omega) (Ev.pos (by omega) (Ev.pos (toL_inj.2 h) (Ev.some rfl))))
      · rw [List.drop_eq_getElem_cons hjl, decide_eq_true (by omega), hasS_cons, decide_eq_true h.symm]; rfl
    · refine ⟨r, Ev.succ ?_, ?_⟩
      · simp only [slices_Index_string_string.l0]
        rw [rdB hjl, up1 (by omega)]
        exact Ev.pos (by omega) (Ev.pos (by omega) (Ev.pos (by omega) (Ev.neg (fun e => h (toL_inj.1 e)) hr)))
      · rw [hd', List.drop_eq_getElem_cons hjl, hasS_cons, decide_eq_false (Ne.symm h)]; rfl
theorem contains_ev (ss : List ByteArray) (hs : ss.length ≤ 8796093022208) (s : ByteArray) : Ev (fun k => slices_Contains_string_string.f k ss s) (hasS s ss) := by
  obtain ⟨r, hr, hd⟩ := index_l0 ss hs s ss.length 0 (by omega) (by omega)
  unfold slices_Contains_string_string.f
  refine Ev.bind (a := r) (by unfold slices_Index_string_string.f; exact hr) (Ev.some ?_)
  rw [hd, List.drop_zero]
theorem rfind_l1 (i : Int) (ss : List ByteArray) (hs : ss.length ≤ 8796093022208) (x : S156) : ∀ (d j : Nat), j ≤ ss.length → ss.length - j = d →
    Ev (fun k => whirligigref04_Of.l1 k i ss (j : Int) x.f0 x.f1.f0 x.f1.f1 x.f1.f2 x.f2 x.f3 x.f4) (if hasS x.f2 (ss.drop j) = true then (2, 0, 0) else (0, 24, i)) := by
  intro d
  induction d with
  | zero =>
    intro j hj hd
    refine Ev.succ ?_
    simp only [whirligigref04_Of.l1]
    rw [List.drop_eq_nil_of_le (by omega)]
    exact Ev.neg (by omega) (Ev.some rfl)
  | succ d ih =>
    intro j hj hd
    have hjl : j < ss.length := by omega
    refine Ev.succ ?_
    simp only [whirligigref04_Of.l1]
    rw [rdB hjl, up1 (by omega), List.drop_eq_getElem_cons hjl]
    refine Ev.pos (by omega) (Ev.pos (by omega) ?_)
    by_cases h : ss[j] = x.f2
    · rw [if_pos (by rw [hasS_cons, decide_eq_true h]; rfl)]
      exact Ev.pos (toL_inj.2 h) (Ev.some rfl)
    · rw [show hasS x.f2 (ss[j] :: ss.drop (j + 1)) = hasS x.f2 (ss.drop (j + 1)) by rw [hasS_cons, decide_eq_false h]; rfl]
      exact Ev.neg (fun e => h (toL_inj.1 e)) (ih (j + 1) (by omega) (by omega))
theorem less_asymm : ∀ x y : List UInt8, Op.bytesLess x y = true → Op.bytesLess y x = false
  | [], [], h => by simp [Op.bytesLess] at h
  | [], _ :: _, _ => by simp [Op.bytesLess]
  | _ :: _, [], h => by simp [Op.bytesLess] at h
  | a :: x, b :: y, h => by
    have ih := less_asymm x y
    simp only [Op.bytesLess, Bool.or_eq_true, Bool.and_eq_true, decide_eq_true_eq, beq_iff_eq] at h
    simp only [Op.bytesLess, Bool.or_eq_false_iff, Bool.and_eq_false_iff, decide_eq_false_iff_not, beq_eq_false_iff_ne]
    simp only [UInt8.lt_iff_toNat_lt] at h ⊢
    rcases h with h | ⟨h1, h2⟩
    · exact ⟨by omega, Or.inl (fun e => by subst e; omega)⟩
    · subst h1
      exact ⟨by omega, Or.inr (ih h2)⟩
def ltV (a b : S103) : Bool := if a.f0 = 3 then Op.bytesLess a.f2.toList b.f2.toList else decide (a.f1 < b.f1)
theorem val_size {v : S103} (h : ValOk v) : v.f2.size ≤ 48 := by
  rcases h with ⟨_, h⟩ | ⟨_, _, h⟩ | ⟨_, _, h⟩
  · rw [h]; decide
  · rw [h]; decide
  · unfold PlainS at h
    simp only [Bool.and_eq_true, decide_eq_true_eq] at h
    exact h.2
theorem before_l0 (a b : S103) (ha : a.f2.size ≤ 1000) (hb : b.f2.size ≤ 1000) : ∀ (d j : Nat), a.f2.size - j = d → j ≤ a.f2.size → j ≤ b.f2.size →
    Ev (fun k => whirligigref01_before.l0 k (j : Int) a.f0 a.f1 a.f2 b.f0 b.f1 b.f2) (Op.bytesLess (a.f2.data.toList.drop j) (b.f2.data.toList.drop j)) := by
  have la := len_size a.f2
  have lb := len_size b.f2
  intro d
  induction d with
  | zero =>
    intro j hd hja hjb
    refine Ev.succ ?_
    simp only [whirligigref01_before.l0]
    refine Ev.neg (by omega) (Ev.succ ?_)
    simp only [whirligigref01_before.j1]
    refine Ev.neg (by decide) (Ev.some ?_)
    rw [List.drop_eq_nil_of_le (by omega)]
    by_cases h : j < b.f2.size
    · rw [drop_at (by omega), decide_eq_true (by omega)]; rfl
    · rw [List.drop_eq_nil_of_le (by omega), decide_eq_false (by omega)]; rfl
  | succ d ih =>
    intro j hd hja hjb
    refine Ev.succ ?_
    simp only [whirligigref01_before.l0]
    refine Ev.pos (by omega) (Ev.succ ?_)
    simp only [whirligigref01_before.j1]
    rw [drop_at (L := a.f2.data.toList) (by omega)]
    by_cases h : j < b.f2.size
    · rw [decide_eq_true (show (j : Int) < (b.f2.size : Int) by omega), drop_at (L := b.f2.data.toList) (by omega), bt_nat _ _ (by omega), bt_nat _ _ h, up1 (by omega)]
      refine Ev.pos rfl (Ev.pos (by omega) (Ev.pos (by omega) (Ev.pos (by omega) ?_)))
      simp only [Op.bytesLess]
      generalize a.f2.data.toList.getD j 0 = x
      generalize b.f2.data.toList.getD j 0 = y
      by_cases e : x = y
      · subst e
        have h1 : ¬ x < x := by rw [UInt8.lt_iff_toNat_lt]; omega
        rw [decide_eq_false h1, beq_self_eq_true, Bool.false_or, Bool.true_and]
        exact Ev.pos rfl (ih (j + 1) (by omega) (by omega) (by omega))
      · have h1 : ¬ ((x.toNat : Int) = (y.toNat : Int)) := fun h => e (UInt8.toNat_inj.1 (by omega))
        refine Ev.neg h1 (Ev.some ?_)
        rw [beq_eq_false_iff_ne.2 e, Bool.false_and, Bool.or_false]
        exact decide_eq_decide.2 (by rw [UInt8.lt_iff_toNat_lt]; omega)
    · rw [decide_eq_false (show ¬ (j : Int) < (b.f2.size : Int) by omega), show b.f2.data.toList.drop j = [] from List.drop_eq_nil_of_le (by omega)]
      refine Ev.neg (by decide) (Ev.some ?_)
      rw [decide_eq_false (by omega)]; rfl
theorem before_ev {a b : S103} (ha : ValOk a) (hb : ValOk b) : Ev (fun k => whirligigref01_before.f k a.f0 a.f1 a.f2 b.f0 b.f1 b.f2) (ltV a b) := by
  have h1 := val_size ha
  have h2 := val_size hb
  unfold whirligigref01_before.f ltV
  by_cases h : a.f0 = 3
  · rw [if_pos h, ByteArray.toList_eq, ByteArray.toList_eq]
    exact Ev.pos h (before_l0 a b (by omega) (by omega) a.f2.size 0 (by omega) (by omega) (by omega))
  · rw [if_neg h]
    exact Ev.neg h (Ev.some rfl)
def cmpI (a b : Int) : Int := if a < b then -1 else if a > b then 1 else 0
def cmpS (a b : ByteArray) : Int := if Op.bytesLess a.toList b.toList = true then -1 else if Op.bytesLess b.toList a.toList = true then 1 else 0
theorem cmpI_eq (a b : Int) : cmp_Compare_int64.f a b = some (cmpI a b) := by
  unfold cmp_Compare_int64.f cmp_isNaN_int64.f cmpI
  rw [bne_self_eq_false, bne_self_eq_false]
  simp only [Option.bind_some]
  rw [if_neg (by decide), if_neg (by decide)]
  split
  · rfl
  · split <;> rfl
theorem cmpS_eq (a b : ByteArray) : cmp_Compare_string.f a b = some (cmpS a b) := by
  unfold cmp_Compare_string.f cmp_isNaN_string.f cmpS
  rw [bne_self_eq_false, bne_self_eq_false]
  simp only [Option.bind_some]
  rw [if_neg (by decide), if_neg (by decide)]
  split
  · rfl
  · split <;> rfl
theorem cmpOr_ev (x y : Int) : Ev (fun k => cmp_Or_int.f k [x, y]) (if x = 0 then y else x) := by
  unfold cmp_Or_int.f
  refine Ev.succ ?_
  simp only [cmp_Or_int.l0]
  refine Ev.pos (by simp) (Ev.pos (by decide) (Ev.pos (by simp) ?_))
  rw [show rd [x, y] 0 = x from rfl]
  by_cases h : x = 0
  · rw [if_pos h]
    refine Ev.pos h (Ev.succ ?_)
    rw [show wrap64 (0 + 1) = 1 from wrap_at (by decide) (by decide)]
    simp only [cmp_Or_int.l0]
    refine Ev.pos (by simp) (Ev.pos (by decide) (Ev.pos (by simp) ?_))
    rw [show rd [x, y] 1 = y from rfl]
    by_cases h2 : y = 0
    · refine Ev.pos h2 (Ev.succ ?_)
      rw [show wrap64 (1 + 1) = 2 from wrap_at (by decide) (by decide)]
      simp only [cmp_Or_int.l0]
      exact Ev.neg (by simp) (Ev.some h2.symm)
    · exact Ev.neg h2 (Ev.some rfl)
  · rw [if_neg h]
    exact Ev.neg h (Ev.some rfl)
theorem compare_ev (a b : S103) : Ev (fun k => val_compare.f k a.f0 a.f1 a.f2 b.f0 b.f1 b.f2) (if cmpI a.f1 b.f1 = 0 then cmpS a.f2 b.f2 else cmpI a.f1 b.f1) := by
  unfold val_compare.f
  exact Ev.bind_some (cmpI_eq _ _) (Ev.bind_some (cmpS_eq _ _) (Ev.bind (cmpOr_ev _ _) (Ev.some rfl)))
theorem compare_lt {a b : S103} (ha : ValOk a) (hb : ValOk b) (hk : a.f0 = b.f0 ∧ (a.f0 = 1 ∨ a.f0 = 3)) {c : Int} (hc : c = if cmpI a.f1 b.f1 = 0 then cmpS a.f2 b.f2 else cmpI a.f1 b.f1) :
    decide (c < 0) = ltV a b ∧ decide (c > 0) = ltV b a ∧ decide (c ≤ 0) = !(ltV b a) ∧ decide (c ≥ 0) = !(ltV a b) := by
  obtain ⟨hk1, hk2⟩ := hk
  have hself : ∀ x : List UInt8, Op.bytesLess x x = false := fun x => by
    cases h : Op.bytesLess x x with
    | false => rfl
    | true => have := less_asymm x x h; rw [h] at this; exact this
  rcases hk2 with hk2 | hk2
  · have e1 : a.f2 = ⟨#[]⟩ := by rcases ha with h | h | h <;> first | exact h.2 | exact h.2.2 | omega
    have e2 : b.f2 = ⟨#[]⟩ := by rcases hb with h | h | h <;> first | exact h.2 | exact h.2.2 | omega
    have h0 : cmpS a.f2 b.f2 = 0 := by rw [e1, e2]; unfold cmpS; rw [hself]; rfl
    rw [h0] at hc
    have hc' : c = cmpI a.f1 b.f1 := by rw [hc]; split <;> omega
    unfold ltV
    rw [if_neg (by omega), if_neg (by omega), hc']
    unfold cmpI
    by_cases g1 : a.f1 < b.f1
    · rw [if_pos g1, decide_eq_true g1, decide_eq_false (show ¬ b.f1 < a.f1 by omega)]; decide
    · rw [if_neg g1]
      by_cases g2 : a.f1 > b.f1
      · rw [if_pos g2, decide_eq_false g1, decide_eq_true (show b.f1 < a.f1 by omega)]; decide
      · rw [if_neg g2, decide_eq_false g1, decide_eq_false (show ¬ b.f1 < a.f1 by omega)]; decide
  · have e1 : a.f1 = 0 := by rcases ha with h | h | h <;> first | exact h.2.1 | omega
    have e2 : b.f1 = 0 := by rcases hb with h | h | h <;> first | exact h.2.1 | omega
    have h0 : cmpI a.f1 b.f1 = 0 := by rw [e1, e2]; rfl
    rw [h0, if_pos rfl] at hc
    unfold ltV
    rw [if_pos hk2, if_pos (by omega), hc]
    unfold cmpS
    cases g1 : Op.bytesLess a.f2.toList b.f2.toList with
    | true => rw [less_asymm _ _ g1, if_pos rfl]; decide
    | false =>
      rw [if_neg (by decide)]
      cases g2 : Op.bytesLess b.f2.toList a.f2.toList with
      | true => rw [if_pos rfl]; decide
      | false => rw [if_neg (by decide)]; decide
end Go.Proofs.YtbngfhlciebeeaaDoor.Sp
end
