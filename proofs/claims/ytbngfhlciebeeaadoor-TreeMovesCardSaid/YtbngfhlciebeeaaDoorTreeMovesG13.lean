/- Printed and hand-written steps towards the row (TreeMoves), those that it reaches. -/
import Derived.Test.YtbngfhlciebeeaaDoorTreeMovesG12
section
namespace Go.Proofs.YtbngfhlciebeeaaDoor.Sp
set_option linter.unusedVariables false
set_option linter.unusedSimpArgs false
open Go.RowKit Go.Proofs.YtbngfhlciebeeaaDoor.L Go.Proofs.YtbngfhlciebeeaaDoorW.PrintWords
def valN : List UInt8 → Nat → Nat
  | [], n => n
  | c :: l, n => valN l (n * 10 + (c.toNat - 48))
theorem valN_nil (n : Nat) : valN [] n = n := rfl
theorem valN_cons (c : UInt8) (l : List UInt8) (n : Nat) : valN (c :: l) n = valN l (n * 10 + (c.toNat - 48)) := rfl
theorem valN_ge : ∀ (l : List UInt8) (n : Nat), n ≤ valN l n
  | [], n => Nat.le_refl _
  | c :: l, n => by
    have := valN_ge l (n * 10 + (c.toNat - 48))
    simp only [valN]; omega
theorem digit_bounds {c : UInt8} (h : isDigit c = true) : 48 ≤ c.toNat ∧ c.toNat ≤ 57 := by
  unfold isDigit at h
  simp at h
  exact h
theorem numFold_val : ∀ (l : List UInt8) (n : Nat), n ≤ 9223372036854775807 → l.all isDigit = true → numFold l (n : Int) = if valN l n ≤ 9223372036854775807 then some ((valN l n : Nat) : Int) else none
  | [], n, hn, h => by rw [valN_nil, if_pos hn]; rfl
  | c :: l, n, hn, h => by
    rw [List.all_cons, Bool.and_eq_true] at h
    obtain ⟨hc, hl⟩ := h
    have hb := digit_bounds hc
    have hge := valN_ge l (n * 10 + (c.toNat - 48))
    rw [valN_cons]
    simp only [numFold]
    by_cases ho : (n : Int) > (9223372036854775807 - ((c.toNat : Int) - 48)) / 10
    · rw [if_pos ho, if_neg (by omega)]
    · rw [if_neg ho, show ((n : Int) * 10 + ((c.toNat : Int) - 48)) = ((n * 10 + (c.toNat - 48) : Nat) : Int) from by omega]
      exact numFold_val l _ (by omega) hl
def dec (n : Nat) : List UInt8 := if h : n < 10 then [UInt8.ofNat (48 + n)] else dec (n / 10) ++ [UInt8.ofNat (48 + n % 10)]
theorem dec_small {n : Nat} (h : n < 10) : dec n = [UInt8.ofNat (48 + n)] := by rw [dec, dif_pos h]
theorem dec_big {n : Nat} (h : ¬ n < 10) : dec n = dec (n / 10) ++ [UInt8.ofNat (48 + n % 10)] := by rw [dec, dif_neg h]
theorem dec_len : ∀ (k n : Nat), n < 10 ^ (k + 1) → (dec n).length ≤ k + 1
  | 0, n, h => by rw [dec_small (by simpa using h)]; simp
  | k + 1, n, h => by
    by_cases h1 : n < 10
    · rw [dec_small h1]; simp
    · rw [dec_big h1, List.length_append]
      have := dec_len k (n / 10) (by rw [Nat.pow_succ] at h; omega)
      simp; omega
theorem valN_snoc : ∀ (l : List UInt8) (c : UInt8) (n : Nat), valN (l ++ [c]) n = valN l n * 10 + (c.toNat - 48)
  | [], c, n => rfl
  | d :: l, c, n => by simp only [List.cons_append, valN]; exact valN_snoc l c _
theorem valN_pos : ∀ (l : List UInt8) (n : Nat), 0 < n → 0 < valN l n := fun l n h => by have := valN_ge l n; omega
theorem ofNat_digit {c : UInt8} (h : 48 ≤ c.toNat ∧ c.toNat ≤ 57) : UInt8.ofNat (48 + (c.toNat - 48)) = c := by
  rw [show 48 + (c.toNat - 48) = c.toNat from by omega]; exact UInt8.ofNat_toNat
theorem dec_val (n : Nat) : ∀ (l : List UInt8), l.length = n + 1 → l.all isDigit = true → (n = 0 ∨ (l.getD 0 0).toNat ≠ 48) → dec (valN l 0) = l := by
  induction n with
  | zero =>
    intro l hl ha _
    match l, hl with
    | [c], _ =>
      have hb := digit_bounds (c := c) (by simpa using ha)
      simp only [valN]
      rw [dec_small (by omega), show 48 + (0 * 10 + (c.toNat - 48)) = 48 + (c.toNat - 48) from by omega, ofNat_digit hb]
  | succ n ih =>
    intro l hl ha hz
    have hne : l ≠ [] := by intro e; rw [e] at hl; cases hl
    obtain ⟨l', c, rfl⟩ : ∃ l' c, l = l' ++ [c] := ⟨l.dropLast, l.getLast hne, (List.dropLast_concat_getLast hne).symm⟩
    rw [List.length_append] at hl
    have hl' : l'.length = n + 1 := by simpa using hl
    rw [List.all_append, Bool.and_eq_true] at ha
    have hb := digit_bounds (c := c) (by simpa using ha.2)
    have h0 : (l' ++ [c]).getD 0 0 = l'.getD 0 0 := by
      rw [List.getD_eq_getElem?_getD, List.getD_eq_getElem?_getD, List.getElem?_append_left (by omega)]
    have hz' : (l'.getD 0 0).toNat ≠ 48 := by
      rcases hz with h | h
      · omega
      · rw [h0] at h; exact h
    have hp : 0 < valN l' 0 := by
      match l', hl' with
      | d :: l', _ =>
        have hd := digit_bounds (c := d) (by have := ha.1; rw [List.all_cons, Bool.and_eq_true] at this; exact this.1)
        have hz2 : d.toNat ≠ 48 := hz'
        simp only [valN]
        exact valN_pos l' _ (by omega)
    rw [valN_snoc, dec_big (by omega), show (valN l' 0 * 10 + (c.toNat - 48)) / 10 = valN l' 0 from by omega, show (valN l' 0 * 10 + (c.toNat - 48)) % 10 = c.toNat - 48 from by omega, ofNat_digit hb, ih l' hl' ha.1 (.inr hz')]
theorem digits_ev : ∀ (f n : Nat), n < f → n ≤ 9223372036854775807 → Ev (fun k => whirligigref01_Digits.f k (n : Int)) ⟨(dec n).toArray⟩
  | 0, n, h, _ => by omega
  | f + 1, n, h, hn => by
    refine Ev.succ ?_
    simp only [whirligigref01_Digits.f]
    refine Ev.neg (by omega) (Ev.neg (by omega) ?_)
    have one : ∀ m : Nat, m < 10 → Go.strOfNums [(wrap64 (48 + (m : Int))) % 256] = ⟨(dec m).toArray⟩ := fun m hm => by
      rw [dec_small hm, wrap_at (by omega) (by omega)]
      unfold strOfNums
      rw [show ((48 + (m : Int)) % 256) = ((48 + m : Nat) : Int) from by omega, List.map_cons, List.map_nil, Int.toNat_natCast]
    by_cases h1 : n < 10
    · exact Ev.pos (by omega) (Ev.some (one n h1))
    · refine Ev.neg (by omega) ?_
      rw [show Int.tdiv (n : Int) 10 = ((n / 10 : Nat) : Int) from by rw [Int.tdiv_eq_ediv_of_nonneg (by omega)]; omega, show Int.tmod (n : Int) 10 = ((n % 10 : Nat) : Int) from by rw [Int.tmod_eq_emod_of_nonneg (by omega)]; omega, wrap_at (by omega) (by omega)]
      refine Ev.bind (digits_ev f (n / 10) (by omega) (by omega)) ?_
      refine Ev.bind (digits_ev f (n % 10) (by omega) (by omega)) ?_
      have l1 := dec_len 18 (n / 10) (by omega)
      have l2 := dec_len 18 (n % 10) (by omega)
      refine Ev.pos (by rw [size_mk, size_mk]; omega) (Ev.some ?_)
      rw [mk_append, dec_big h1, dec_small (n := n % 10) (by omega)]
theorem rnum_l (t : ByteArray) (ht : t.size ≤ 1000) (hall : t.data.toList.all isDigit = true) (d : Nat) : ∀ (j N : Nat), j ≤ t.size → t.size - j = d → N ≤ 9223372036854775808 →
    Ev (fun k => whirligigref01_Number.l0 k t t (-(N : Int)) (j : Int))
      (if valN (t.data.toList.drop j) N ≤ 9223372036854775807 then (((valN (t.data.toList.drop j) N : Nat) : Int), decide ((⟨(dec (valN (t.data.toList.drop j) N)).toArray⟩ : ByteArray) = t)) else (0, false)) := by
  have hl := len_size t
  induction d with
  | zero =>
    intro j N hj hd hN
    rw [List.drop_eq_nil_of_le (by omega)]
    rw [valN_nil]
    refine Ev.succ ?_
    simp only [whirligigref01_Number.l0]
    refine Ev.neg (by omega) (Ev.pos (by first | trivial | rfl) ?_)
    by_cases h : N = 9223372036854775808
    · rw [if_neg (by omega)]
      exact Ev.pos (by omega) (Ev.some rfl)
    · rw [if_pos (by omega)]
      refine Ev.neg (by omega) ?_
      rw [Int.neg_neg, wrap_at (by omega) (by omega)]
      exact Ev.bind (digits_ev (N + 1) N (by omega) (by omega)) (Ev.some (by rw [eq_lists]))
  | succ d ih =>
    intro j N hj hd hN
    have hlt : j < t.data.toList.length := by omega
    rw [drop_at hlt, valN_cons]
    have hc := digit_bounds (List.all_eq_true.1 hall (t.data.toList.getD j 0) (by rw [List.getD_eq_getElem?_getD, List.getElem?_eq_getElem hlt]; exact List.getElem_mem hlt))
    refine Ev.succ ?_
    simp only [whirligigref01_Number.l0]
    rw [bt_nat t j (by omega)]
    refine Ev.pos (by omega) (Ev.pos (by omega) (Ev.neg (by omega) ?_))
    rw [decide_eq_false (by omega)]
    refine Ev.succ ?_
    simp only [whirligigref01_Number.j4]
    rw [bt_nat t j (by omega)]
    generalize t.data.toList.getD j 0 = c at *
    have hge := valN_ge (t.data.toList.drop (j + 1)) (N * 10 + (c.toNat - 48))
    rw [show (((c.toNat : Int) - 48) % 256) = ((c.toNat - 48 : Nat) : Int) from by omega]
    generalize hD : c.toNat - 48 = D at *
    rw [show ((-9223372036854775808) + (D : Int)) = -(9223372036854775808 - (D : Int)) from by omega, Int.neg_tdiv, Int.tdiv_eq_ediv_of_nonneg (by omega)]
    refine Ev.neg (by decide) (Ev.pos (by omega) (Ev.pos (by omega) ?_))
    by_cases ho : -(N : Int) < -((9223372036854775808 - (D : Int)) / 10)
    · rw [if_neg (by omega)]
      exact Ev.pos ho (Ev.some rfl)
    · refine Ev.neg ho ?_
      rw [wrap_at (x := 10 * -(N : Int)) (by omega) (by omega), wrap_at (by omega) (by omega), wrap_at (by omega) (by omega), show (10 * -(N : Int) - (D : Int)) = -((N * 10 + D : Nat) : Int) from by omega]
      exact ih (j + 1) (N * 10 + D) (by omega) (by omega) (by omega)
theorem rnum_ev (t : ByteArray) (ht : t.size ≤ 1000000000000) (h0 : 0 < t.size) (hall : t.data.toList.all isDigit = true) (hz : t.size = 1 ∨ (t.data.toList.getD 0 0).toNat ≠ 48) :
    Ev (fun k => whirligigref01_Number.f k t) (match numFold t.data.toList 0 with | some n => (n, true) | none => (0, false)) := by
  have hl := len_size t
  have hd0 := digit_bounds (List.all_eq_true.1 hall (t.data.toList.getD 0 0) (by rw [List.getD_eq_getElem?_getD, List.getElem?_eq_getElem (by omega)]; exact List.getElem_mem (by omega)))
  unfold whirligigref01_Number.f
  rw [show bt t 0 = ((t.data.toList.getD 0 0).toNat : Int) from bt_nat t 0 h0]
  refine Ev.pos (by omega) (Ev.pos (by omega) ?_)
  rw [show (((t.data.toList.getD 0 0).toNat : Int) == 45) = false from by rw [beq_eq_false_iff_ne]; omega]
  refine Ev.succ ?_
  simp only [whirligigref01_Number.j0]
  refine Ev.neg (by decide) (Ev.succ ?_)
  simp only [whirligigref01_Number.j1]
  refine Ev.neg (by omega) (Ev.succ ?_)
  simp only [whirligigref01_Number.j2]
  have hf := numFold_val t.data.toList 0 (by omega) hall
  rw [show ((0 : Nat) : Int) = 0 from rfl] at hf
  rw [hf]
  have hdv := dec_val (t.size - 1) t.data.toList (by omega) hall (hz.imp (by omega) id)
  by_cases h19 : t.size > 19
  · rw [decide_eq_true (by omega)]
    have : ¬ valN t.data.toList 0 ≤ 9223372036854775807 := fun h => by
      have := dec_len 18 (valN t.data.toList 0) (by omega)
      rw [hdv] at this
      omega
    rw [if_neg this]
    exact Ev.pos rfl (Ev.some rfl)
  · rw [decide_eq_false (by omega)]
    refine Ev.neg (by decide) ?_
    have h := rnum_l t (by omega) hall t.size 0 0 (by omega) rfl (by omega)
    rw [List.drop_zero] at h
    by_cases hv : valN t.data.toList 0 ≤ 9223372036854775807
    · rw [if_pos hv] at h
      rw [if_pos hv]
      rw [hdv, decide_eq_true (by exact ext_bytes rfl)] at h
      exact h
    · rw [if_neg hv] at h
      rw [if_neg hv]
      exact h
theorem rnumber_l (s : ByteArray) (hs : s.size ≤ 1000000000000) (i d : Nat) (r : Int × ByteArray × Int × Int × Int × Int) (hr : Ev (fun k => whirligigref02_number.j1 k s (i : Int) ((pend isDigit s.data.toList i : Nat) : Int)) r) : ∀ j, j ≤ s.size → s.size - j = d → pend isDigit s.data.toList i = pend isDigit s.data.toList j →
    Ev (fun k => whirligigref02_number.l0 k s (i : Int) (j : Int)) r := by
  have hl := len_size s
  induction d with
  | zero =>
    intro j hj hd he
    refine Ev.succ ?_
    simp only [whirligigref02_number.l0]
    rw [pend_end (i := j) (by omega)] at he
    rw [he] at hr
    exact Ev.neg (by omega) hr
  | succ d ih =>
    intro j hj hd he
    refine Ev.succ ?_
    simp only [whirligigref02_number.l0]
    rw [bt_nat s j (by omega)]
    refine Ev.pos (by omega) (Ev.pos (by omega) ?_)
    cases hb : isDigit (s.data.toList.getD j 0) with
    | true =>
      have hb' := digit_bounds hb
      rw [pend_step (by omega) hb] at he
      rw [wrap_at (by omega) (by omega)]
      exact Ev.pos (by omega) (Ev.pos (by omega) (ih (j + 1) (by omega) (by omega) he))
    | false =>
      rw [pend_stop (by omega) hb] at he
      rw [he] at hr
      unfold isDigit at hb
      by_cases h1 : 48 ≤ (s.data.toList.getD j 0).toNat
      · rw [decide_eq_true h1, Bool.true_and, decide_eq_false_iff_not] at hb
        exact Ev.pos (by omega) (Ev.neg (by omega) hr)
      · exact Ev.neg (by omega) hr
theorem rnumber_ev (s : ByteArray) (hs : s.size ≤ 1000000000000) (i : Nat) (hi : i < s.size) (hc : smallB (s.data.toList.getD i 0) = false) (hd : isDigit (s.data.toList.getD i 0) = true) :
    Ev (fun k => whirligigref02_number.f k s (i : Int)) (RefRel (tokenAt s.data.toList i) i) := by
  have hl := len_size s
  have hp := le_pend isDigit s.data.toList (i + 1)
  have hst := pend_step (p := isDigit) (L := s.data.toList) (i := i) (by omega) hd
  have hq := pend_le (p := isDigit) (L := s.data.toList) (i := i) (by omega)
  unfold whirligigref02_number.f
  refine rnumber_l s hs i _ _ ?_ i (by omega) rfl rfl
  have hall : (s.extract i (pend isDigit s.data.toList i)).data.toList.all isDigit = true := by
    rw [ext_data, cut_pend]
    exact List.all_takeWhile
  have h2 : (s.extract i (pend isDigit s.data.toList i)).data.toList.getD 0 0 = s.data.toList.getD i 0 := by
    rw [ext_data, cut_pend, drop_at (by omega), List.takeWhile_cons_of_pos hd]; rfl
  have hz := ext_size (s := s) (i := i) (e := pend isDigit s.data.toList i) (by omega)
  unfold tokenAt
  rw [if_neg (by rw [hc]; decide), if_pos hd]
  generalize hE : pend isDigit s.data.toList i = E at *
  refine Ev.succ ?_
  simp only [whirligigref02_number.j1]
  rw [bt_nat s i hi, wrap_at (by omega) (by omega)]
  refine Ev.pos (by omega) (Ev.pos (by omega) ?_)
  have hgo : (¬ (E - i > 1 ∧ (s.data.toList.getD i 0).toNat = 48)) → Ev (fun k => whirligigref02_number.j2 k s (i : Int) (E : Int) false) (RefRel (match numFold (cut s.data.toList i E) 0 with | none => .error 21 | some n => .ok (3, cut s.data.toList i E, n, E)) i) := fun hn => by
    refine Ev.succ ?_
    simp only [whirligigref02_number.j2]
    refine Ev.neg (by decide) (Ev.pos (by omega) (Ev.pos (by omega) (Ev.pos (by omega) ?_)))
    rw [Int.toNat_natCast, Int.toNat_natCast]
    refine Ev.bind (rnum_ev _ (by omega) (by omega) hall (by rw [h2, hz]; omega)) ?_
    rw [ext_data]
    cases numFold (cut s.data.toList i E) 0 with
    | none => exact Ev.neg (by decide) (Ev.some rfl)
    | some n => exact Ev.pos rfl (Ev.some (by simp only [RefRel, ext_list]))
  by_cases h48 : (s.data.toList.getD i 0).toNat = 48
  · refine Ev.pos (by omega) ?_
    by_cases h1 : E - i > 1
    · rw [if_pos ⟨h1, h48⟩, decide_eq_true (by omega)]
      refine Ev.succ ?_
      simp only [whirligigref02_number.j2]
      exact Ev.pos trivial (Ev.some rfl)
    · rw [if_neg (fun h => h1 h.1), decide_eq_false (by omega)]
      exact hgo (fun h => h1 h.1)
  · rw [if_neg (fun h => h48 h.2)]
    exact Ev.neg (by omega) (hgo (fun h => h48 h.2))
end Go.Proofs.YtbngfhlciebeeaaDoor.Sp
end
section
namespace Go.Proofs.YtbngfhlciebeeaaDoor.Sp
set_option linter.unusedVariables false
set_option linter.unusedSimpArgs false
open Go.RowKit Go.Proofs.YtbngfhlciebeeaaDoor.L Go.Proofs.YtbngfhlciebeeaaDoorW.PrintWords
def ones : List UInt8 := [40, 41, 59, 58, 43, 45, 42, 47, 37, 60, 62, 61]
def signOne (c : UInt8) (l : List UInt8) : Option (List UInt8) :=
  if l.head? = some 61 ∧ (c = 60 ∨ c = 62 ∨ c = 33) then some [c, 61] else if c ∈ ones then some [c] else none
theorem signFind_one (c : UInt8) (l : List UInt8) : signFind (c :: l) = signOne c l := by
  unfold signFind signOne
  by_cases h1 : c ∈ ones ∨ c = 33
  · have h2 : c = 40 ∨ c = 41 ∨ c = 59 ∨ c = 58 ∨ c = 43 ∨ c = 45 ∨ c = 42 ∨ c = 47 ∨ c = 37 ∨ c = 60 ∨ c = 62 ∨ c = 61 ∨ c = 33 := by
      simpa [ones, or_assoc] using h1
    clear h1
    cases l with
    | nil =>
      rcases h2 with h | h | h | h | h | h | h | h | h | h | h | h | h <;> subst h <;> decide
    | cons d l =>
      by_cases hd : d = 61
      · subst hd
        rcases h2 with h | h | h | h | h | h | h | h | h | h | h | h | h <;> subst h <;> simp [signList, List.find?, List.isPrefixOf, ones]
      · have hd' : ((61 : UInt8) == d) = false := beq_eq_false_iff_ne.2 (fun e => hd e.symm)
        rcases h2 with h | h | h | h | h | h | h | h | h | h | h | h | h <;> subst h <;> simp [signList, List.find?, List.isPrefixOf, ones, hd, hd']
  · have hn : ∀ g ∈ signList, g.isPrefixOf (c :: l) = false := by
      intro g hg
      have hne : ∀ a : UInt8, a ∈ ones ∨ a = 33 → (a == c) = false := fun a ha => by
        rw [beq_eq_false_iff_ne]; rintro rfl; exact h1 ha
      have hg' : g = [60, 61] ∨ g = [62, 61] ∨ g = [33, 61] ∨ g = [40] ∨ g = [41] ∨ g = [59] ∨ g = [58] ∨ g = [43] ∨ g = [45] ∨ g = [42] ∨ g = [47] ∨ g = [37] ∨ g = [60] ∨ g = [62] ∨ g = [61] := by simpa [signList] using hg
      rcases hg' with h | h | h | h | h | h | h | h | h | h | h | h | h | h | h <;> (rw [h, List.isPrefixOf, hne _ (by decide)]; rfl)
    rw [List.find?_eq_none.2 (fun g hg => by rw [hn g hg]; decide), if_neg (fun h => h1 (by rcases h.2 with h | h | h <;> subst h <;> decide)), if_neg (fun h => h1 (.inl h))]
theorem ones_size : (⟨#[40, 41, 59, 58, 43, 45, 42, 47, 37, 60, 62, 61]⟩ : ByteArray).size = 12 := rfl
theorem rsign_l (s : ByteArray) (hs : s.size ≤ 1000000000000) (i : Nat) (hi : i < s.size) (c : UInt8) (d : Nat) : ∀ j, j ≤ 12 → 12 - j = d →
    Ev (fun k => whirligigref02_sign.l0 k s (i : Int) (c.toNat : Int) (⟨#[40, 41, 59, 58, 43, 45, 42, 47, 37, 60, 62, 61]⟩ : ByteArray) (j : Int))
      (if c ∈ ones.drop j then (5, s.extract i (i + 1), 0, (i : Int), (i : Int) + 1, 0) else (0, ⟨#[]⟩, 0, 0, (i : Int), 11)) := by
  have hl := len_size s
  have hos := ones_size
  have hol : ones.length = 12 := rfl
  induction d with
  | zero =>
    intro j hj hd
    rw [List.drop_eq_nil_of_le (by omega), if_neg (by simp)]
    refine Ev.succ ?_
    simp only [whirligigref02_sign.l0]
    exact Ev.neg (by omega) (Ev.some rfl)
  | succ d ih =>
    intro j hj hd
    refine Ev.succ ?_
    simp only [whirligigref02_sign.l0]
    rw [bt_nat _ j (by omega)]
    have ho : (⟨#[40, 41, 59, 58, 43, 45, 42, 47, 37, 60, 62, 61]⟩ : ByteArray).data.toList = ones := rfl
    rw [ho]
    refine Ev.pos (by omega) (Ev.pos (by omega) ?_)
    rw [drop_at (L := ones) (by omega)]
    by_cases h : ones.getD j 0 = c
    · have hm : c ∈ ones.getD j 0 :: ones.drop (j + 1) := by rw [h]; exact List.mem_cons_self
      rw [if_pos hm, wrap_at (by omega) (by omega)]
      exact Ev.pos (by rw [h]) (Ev.pos (by omega) (Ev.pos (by omega) (Ev.pos (by omega) (Ev.some (by rw [show ((i : Int) + 1) = ((i + 1 : Nat) : Int) from by omega, Int.toNat_natCast, Int.toNat_natCast])))))
    · refine Ev.neg (fun e => h (UInt8.toNat_inj.1 (by omega))) ?_
      rw [wrap_at (by omega) (by omega)]
      have := ih (j + 1) (by omega) (by omega)
      by_cases hm : c ∈ ones.drop (j + 1)
      · rw [if_pos hm] at this
        rw [if_pos (List.mem_cons_of_mem _ hm)]
        exact this
      · rw [if_neg hm] at this
        rw [if_neg (fun e => (List.mem_cons.1 e).elim (fun e => h e.symm) hm)]
        exact this
theorem rsign_ev (s : ByteArray) (hs : s.size ≤ 1000000000000) (i : Nat) (hi : i < s.size) (hc : smallB (s.data.toList.getD i 0) = false) (hd : isDigit (s.data.toList.getD i 0) = false) (hq' : ¬ (s.data.toList.getD i 0).toNat = 39) :
    Ev (fun k => whirligigref02_sign.f k s (i : Int)) (RefRel (tokenAt s.data.toList i) i) := by
  have hl := len_size s
  unfold tokenAt
  rw [if_neg (by rw [hc]; decide), if_neg (by rw [hd]; decide), if_neg hq', drop_at (by omega), signFind_one]
  unfold whirligigref02_sign.f
  have hcut1 : s.extract i (i + 1) = ⟨[s.data.toList.getD i 0].toArray⟩ := by rw [ext_list, cut_one (by omega)]
  have hb := bt_nat s i hi
  rw [hb]
  have hone : ∀ b : Bool, b = false → Ev (fun k => whirligigref02_sign.j0 k s (i : Int) ((s.data.toList.getD i 0).toNat : Int) b) (RefRel (match (if s.data.toList.getD i 0 ∈ ones then some [s.data.toList.getD i 0] else none : Option (List UInt8)) with | some g => .ok (5, g, 0, i + g.length) | none => .error 11) i) := fun b hbf => by
    subst hbf
    refine Ev.succ ?_
    simp only [whirligigref02_sign.j0]
    refine Ev.neg (by decide) ?_
    have := rsign_l s hs i hi (s.data.toList.getD i 0) 12 0 (by omega) rfl
    rw [List.drop_zero] at this
    by_cases hm : s.data.toList.getD i 0 ∈ ones
    · rw [if_pos hm] at this
      rw [if_pos hm]
      simp only [RefRel]
      rw [← hcut1]
      exact this
    · rw [if_neg hm] at this
      rw [if_neg hm]
      exact this
  refine Ev.pos (by omega) (Ev.pos (by omega) ?_)
  rw [wrap_at (by omega) (by omega)]
  unfold signOne
  by_cases h1 : i + 1 < s.size
  · refine Ev.pos (by omega) (Ev.pos (by omega) ?_)
    rw [show ((i : Int) + 1) = ((i + 1 : Nat) : Int) from by omega, bt_nat s (i + 1) h1, drop_at (L := s.data.toList) (i := i + 1) (by omega)]
    by_cases h61 : s.data.toList.getD (i + 1) 0 = 61
    · refine Ev.pos (by rw [h61]; rfl) ?_
      have htwo : (s.data.toList.getD i 0 = 60 ∨ s.data.toList.getD i 0 = 62 ∨ s.data.toList.getD i 0 = 33) → Ev (fun k => whirligigref02_sign.j0 k s (i : Int) ((s.data.toList.getD i 0).toNat : Int) true) (RefRel (.ok (5, [s.data.toList.getD i 0, 61], 0, i + 2)) i) := fun _ => by
        refine Ev.succ ?_
        simp only [whirligigref02_sign.j0]
        rw [wrap_at (by omega) (by omega)]
        refine Ev.pos trivial (Ev.pos (by omega) (Ev.pos (by omega) (Ev.pos (by omega) (Ev.some ?_))))
        have hcut2 : s.extract i (i + 2) = ⟨[s.data.toList.getD i 0, 61].toArray⟩ := by
          rw [ext_list, ← cut_append (j := i + 1) (by omega) (by omega), cut_one (by omega), cut_one (by omega), h61]; rfl
        simp only [RefRel]
        rw [← hcut2, show ((i : Int) + 2) = ((i + 2 : Nat) : Int) from by omega, Int.toNat_natCast, Int.toNat_natCast]
      by_cases h60 : s.data.toList.getD i 0 = 60
      · rw [if_pos ⟨by rw [h61]; rfl, .inl h60⟩]
        exact Ev.pos (by rw [h60]; rfl) (htwo (.inl h60))
      · refine Ev.neg (fun e => h60 (UInt8.toNat_inj.1 (by simpa using (by omega : (s.data.toList.getD i 0).toNat = 60)))) ?_
        by_cases h62 : s.data.toList.getD i 0 = 62
        · rw [if_pos ⟨by rw [h61]; rfl, .inr (.inl h62)⟩]
          exact Ev.pos (by rw [h62]; rfl) (htwo (.inr (.inl h62)))
        · refine Ev.neg (fun e => h62 (UInt8.toNat_inj.1 (by simpa using (by omega : (s.data.toList.getD i 0).toNat = 62)))) ?_
          by_cases h33 : s.data.toList.getD i 0 = 33
          · rw [if_pos ⟨by rw [h61]; rfl, .inr (.inr h33)⟩, show (((s.data.toList.getD i 0).toNat : Int) == 33) = true from by rw [h33]; rfl]
            exact htwo (.inr (.inr h33))
          · rw [if_neg (fun e => e.2.elim h60 (fun e => e.elim h62 h33))]
            exact hone _ (by rw [beq_eq_false_iff_ne]; exact fun e => h33 (UInt8.toNat_inj.1 (by simpa using (by omega : (s.data.toList.getD i 0).toNat = 33))))
    · refine Ev.neg (fun e => h61 (UInt8.toNat_inj.1 (by simpa using (by omega : (s.data.toList.getD (i + 1) 0).toNat = 61)))) ?_
      rw [if_neg (fun e => h61 (by simpa using e.1))]
      exact hone _ rfl
  · refine Ev.neg (by omega) ?_
    rw [List.drop_eq_nil_of_le (by omega), if_neg (fun e => by simp at e)]
    exact hone _ rfl
theorem rtoken_ev (s : ByteArray) (hs : s.size ≤ 1000000000000) (i : Nat) (hi : i < s.size) :
    Ev (fun k => whirligigref02_Token.f k s (i : Int)) (RefRel (tokenAt s.data.toList i) i) := by
  unfold whirligigref02_Token.f
  rw [bt_nat s i hi]
  refine Ev.pos (by omega) (Ev.pos (by omega) (Ev.bind_some (letter_ev _) ?_))
  cases hc : smallB (s.data.toList.getD i 0) with
  | true => exact Ev.pos rfl (Ev.bind (rpath_ev s hs i hi hc) (Ev.some rfl))
  | false =>
    refine Ev.neg (by decide) ?_
    cases hd : isDigit (s.data.toList.getD i 0) with
    | true =>
      have hb := digit_bounds hd
      refine Ev.pos (by omega) ?_
      rw [decide_eq_true (by omega)]
      refine Ev.succ ?_
      simp only [whirligigref02_Token.j0]
      exact Ev.pos trivial (Ev.bind (rnumber_ev s hs i hi hc hd) (Ev.some rfl))
    | false =>
      have hrest : Ev (fun k => whirligigref02_Token.j0 k s (i : Int) ((s.data.toList.getD i 0).toNat : Int) false) (RefRel (tokenAt s.data.toList i) i) := by
        refine Ev.succ ?_
        simp only [whirligigref02_Token.j0]
        refine Ev.neg (by decide) ?_
        by_cases hq : (s.data.toList.getD i 0).toNat = 39
        · exact Ev.pos (by omega) (Ev.bind (rquote_ev s hs i hi hc hd hq) (Ev.some rfl))
        · exact Ev.neg (by omega) (Ev.bind (rsign_ev s hs i hi hc hd hq) (Ev.some rfl))
      by_cases h48 : 48 ≤ (s.data.toList.getD i 0).toNat
      · refine Ev.pos (by omega) ?_
        unfold isDigit at hd
        rw [decide_eq_true h48, Bool.true_and, decide_eq_false_iff_not] at hd
        rw [decide_eq_false (by omega)]
        exact hrest
      · exact Ev.neg (by omega) hrest
def Tk.s31 (t : Tk) : S31 := ⟨t.kind, ⟨t.text.toArray⟩, t.n, (t.pos : Int)⟩
theorem rlex_blank (s : ByteArray) (hs : s.size ≤ 1000000000000) (out : List S31) (r : List S31 × Int × Int) (d : Nat) : ∀ i, i ≤ s.size → s.size - i = d →
    Ev (fun k => whirligigref02_Lex.l0 k s out ((pend blankB s.data.toList i : Nat) : Int)) r → Ev (fun k => whirligigref02_Lex.l0 k s out (i : Int)) r := by
  have hl := len_size s
  induction d with
  | zero =>
    intro i hi hd h
    rw [pend_end (by omega)] at h
    exact h
  | succ d ih =>
    intro i hi hd h
    cases hb : blankB (s.data.toList.getD i 0) with
    | true =>
      rw [pend_step (by omega) hb] at h
      refine Ev.succ ?_
      simp only [whirligigref02_Lex.l0]
      rw [bt_nat s i (by omega), wrap_at (by omega) (by omega)]
      have h32 : (s.data.toList.getD i 0).toNat = 32 := by unfold blankB at hb; exact beq_iff_eq.1 hb
      exact Ev.pos (by omega) (Ev.pos (by omega) (Ev.pos (by omega) (ih (i + 1) (by omega) (by omega) h)))
    | false =>
      rw [pend_stop (by omega) hb] at h
      exact h
theorem pend_not {p : UInt8 → Bool} {L : List UInt8} {i : Nat} (h : pend p L i < L.length) : p (L.getD (pend p L i) 0) = false := by
  cases hb : p (L.getD (pend p L i) 0) with
  | false => rfl
  | true =>
    exfalso
    have h1 : cut L i (pend p L i) = (L.drop i).takeWhile p := cut_pend p L i
    have h2 := List.takeWhile_append_dropWhile (p := p) (l := L.drop i)
    have h3 : (L.drop i).dropWhile p = L.drop (pend p L i) := by
      have e : (L.drop i).drop ((L.drop i).takeWhile p).length = (L.drop i).dropWhile p := by
        conv => lhs; arg 2; rw [← h2]
        rw [List.drop_left]
      rw [← e, List.drop_drop]
      unfold pend
      congr 1
    rw [drop_at h] at h3
    have := List.head?_dropWhile_not p (L.drop i)
    rw [h3] at this
    simp only [List.head?_cons] at this
    rw [hb] at this
    cases this
theorem rlex_l (s : ByteArray) (hs : s.size ≤ 1000000000000) : ∀ (f i : Nat) (out : List Tk), i ≤ s.size → s.size - i < f → out.length ≤ 120 →
    Ev (fun k => whirligigref02_Lex.l0 k s (out.map Tk.s31) (i : Int)) (((lexGo s.data.toList f i out).1).map Tk.s31, (lexGo s.data.toList f i out).2.1, ((lexGo s.data.toList f i out).2.2 : Int))
  | 0, i, out, hi, hf, ho => by omega
  | f + 1, i, out, hi, hf, ho => by
    have hl := len_size s
    have hp := le_pend blankB s.data.toList i
    have hq := pend_le (p := blankB) (L := s.data.toList) (i := i) (by omega)
    have hn := pend_not (p := blankB) (L := s.data.toList) (i := i)
    refine rlex_blank s hs _ _ _ i hi rfl ?_
    simp only [lexGo]
    generalize pend blankB s.data.toList i = j at *
    refine Ev.succ ?_
    simp only [whirligigref02_Lex.l0]
    by_cases h1 : s.data.toList.length ≤ j
    · rw [if_pos h1]
      exact Ev.neg (by omega) (Ev.some (by simp))
    · rw [if_neg h1]
      have hb := hn (by omega)
      rw [bt_nat s j (by omega)]
      have h32 : (s.data.toList.getD j 0).toNat ≠ 32 := by
        intro e
        unfold blankB at hb
        rw [e] at hb
        cases hb
      refine Ev.pos (by omega) (Ev.pos (by omega) (Ev.neg (by omega) ?_))
      by_cases h2 : out.length = 120
      · rw [if_pos h2]
        exact Ev.pos (by rw [List.length_map]; omega) (Ev.some (by simp))
      · rw [if_neg h2]
        refine Ev.neg (by rw [List.length_map]; omega) (Ev.bind (rtoken_ev s hs j (by omega)) ?_)
        cases ht : tokenAt s.data.toList j with
        | error e =>
          have hne : e ≠ 0 := by
            obtain ⟨r, _, h⟩ := token_ev s hs j (by omega)
            rw [ht] at h
            exact h.2
          exact Ev.neg hne (Ev.some (by simp [RefRel]))
        | ok x =>
          obtain ⟨k, t, n, e⟩ := x
          have hle := tokenAt_le (by omega) ht
          refine Ev.pos rfl (Ev.pos (by rw [List.length_map]; omega) ?_)
          have := rlex_l s hs f e (out ++ [⟨k, t, n, j⟩]) (by omega) (by omega) (by rw [List.length_append]; simp; omega)
          rw [List.map_append] at this
          exact this
theorem rLex_ev (s : ByteArray) (hs : s.size ≤ 1000000000000) : Ev (fun k => whirligigref02_Lex.f k s) (((lex s.data.toList).1).map Tk.s31, (lex s.data.toList).2.1, ((lex s.data.toList).2.2 : Int)) := by
  have hl := len_size s
  exact rlex_l s hs (s.data.toList.length + 1) 0 [] (by omega) (by omega) (by simp)
end Go.Proofs.YtbngfhlciebeeaaDoor.Sp
end
