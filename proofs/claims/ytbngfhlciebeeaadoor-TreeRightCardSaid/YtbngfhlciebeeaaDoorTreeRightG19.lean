/- Printed and hand-written steps towards the row (TreeRight), those that it reaches. -/
import Derived.Test.YtbngfhlciebeeaaDoorTreeRightG14
import Derived.Test.YtbngfhlciebeeaaDoorTreeRightLxf112
section
namespace Go.Proofs.YtbngfhlciebeeaaDoor.Sp
set_option linter.unusedVariables false
set_option linter.unusedSimpArgs false
open Go.RowKit Go.Proofs.YtbngfhlciebeeaaDoor.L Go.Proofs.YtbngfhlciebeeaaDoorW.PrintWords
theorem letter_ev (c : UInt8) : whirligigref02_letter.f (c.toNat : Int) = some (smallB c) := by
  unfold whirligigref02_letter.f smallB
  by_cases h : 97 ≤ c.toNat
  · rw [if_pos (by omega), decide_eq_true h, Bool.true_and]
    exact congrArg some (decide_eq_decide.2 (by omega))
  · rw [if_neg (by omega), decide_eq_false h]; rfl
theorem inner_ev (c : UInt8) : whirligigref02_inner.f (c.toNat : Int) = some (innerB c) := by
  unfold whirligigref02_inner.f innerB isDigit
  rw [letter_ev]
  simp only [Option.bind_some]
  cases smallB c
  · by_cases h : 48 ≤ c.toNat
    · by_cases h2 : c.toNat ≤ 57
      · rw [if_neg (by decide), if_pos (by omega), if_pos (by omega), decide_eq_true h, decide_eq_true h2]; rfl
      · rw [if_neg (by decide), if_pos (by omega), if_neg (by omega), decide_eq_true h, decide_eq_false h2]
        exact congrArg some (beq_cast _ 95)
    · rw [if_neg (by decide), if_neg (by omega), decide_eq_false h]
      exact congrArg some (beq_cast _ 95)
  · rfl
theorem rword_l (s : ByteArray) (hs : s.size ≤ 1000000000000) (i d : Nat) : ∀ n, i + n ≤ s.size → s.size - (i + n) = d →
    Ev (fun k => whirligigref02_word.l0 k s (i : Int) (n : Int)) (((pend innerB s.data.toList (i + n) - i : Nat)) : Int) := by
  have hl := len_size s
  induction d with
  | zero =>
    intro n hn hd
    rw [pend_end (by omega)]
    refine Ev.succ ?_
    simp only [whirligigref02_word.l0]
    rw [wrap_at (by omega) (by omega)]
    exact Ev.neg (by omega) (Ev.some (by omega))
  | succ d ih =>
    intro n hn hd
    refine Ev.succ ?_
    simp only [whirligigref02_word.l0]
    rw [wrap_at (by omega) (by omega), show ((i : Int) + (n : Int)) = ((i + n : Nat) : Int) from by omega, bt_nat s (i + n) (by omega)]
    refine Ev.pos (by omega) (Ev.pos (by omega) (Ev.bind_some (inner_ev _) ?_))
    cases hb : innerB (s.data.toList.getD (i + n) 0) with
    | true =>
      rw [pend_step (by omega) hb]
      refine Ev.pos rfl ?_
      rw [wrap_at (by omega) (by omega)]
      exact ih (n + 1) (by omega) (by omega)
    | false =>
      rw [pend_stop (by omega) hb]
      exact Ev.neg (by decide) (Ev.some (by omega))
theorem rword_ev (s : ByteArray) (hs : s.size ≤ 1000000000000) (i : Nat) (hi : i ≤ s.size) : Ev (fun k => whirligigref02_word.f k s (i : Int)) ((pend innerB s.data.toList i - i : Nat) : Int) :=
  rword_l s hs i _ 0 (by omega) rfl
def RefRel (x : Except Int (Int × List UInt8 × Int × Nat)) (i : Nat) : Int × ByteArray × Int × Int × Int × Int :=
  match x with
  | .error e => (0, ⟨#[]⟩, 0, 0, (i : Int), e)
  | .ok (k, t, n, e) => (k, ⟨t.toArray⟩, n, (i : Int), (e : Int), 0)
theorem rpath_l (s : ByteArray) (hs : s.size ≤ 1000000000000) (i : Nat) : ∀ (f e : Nat) (kd : Int), i ≤ e → e ≤ s.size → s.size - e < f →
    Ev (fun k => whirligigref02_path.l0 k s (i : Int) (e : Int) kd false)
      (match pathGo s.data.toList f e kd with
      | none => (0, ⟨#[]⟩, 0, 0, (i : Int), 15)
      | some (k', e') => if e' - i > 32 then (0, ⟨#[]⟩, 0, 0, (i : Int), 15) else (k', s.extract i e', 0, (i : Int), (e' : Int), 0))
  | 0, e, kd, h0, h1, h2 => by omega
  | f + 1, e, kd, h0, h1, h2 => by
    have hl := len_size s
    have hend : ∀ k' : Nat, (if (wrap64 ((e : Int) - (i : Int))) > 32 then (some ((0 : Int), (⟨#[]⟩ : ByteArray), (0 : Int), (0 : Int), (i : Int), (15 : Int))) else (if 0 ≤ (i : Int) then (if (i : Int) ≤ (e : Int) then (if (e : Int) ≤ (s.size : Int) then (some (kd, s.extract ((i : Int) : Int).toNat ((e : Int) : Int).toNat, 0, (i : Int), (e : Int), 0)) else (none)) else (none)) else (none))) = some (if e - i > 32 then (0, ⟨#[]⟩, 0, 0, (i : Int), 15) else (kd, s.extract i e, 0, (i : Int), (e : Int), 0)) := fun k' => by
      rw [wrap_at (by omega) (by omega)]
      by_cases h : e - i > 32
      · rw [if_pos (by omega), if_pos h]
      · rw [if_neg (by omega), if_neg h, if_pos (by omega), if_pos (by omega), if_pos (by omega)]; simp
    by_cases hc : e + 1 < s.data.toList.length ∧ (s.data.toList.getD e 0).toNat = 46 ∧ smallB (s.data.toList.getD (e + 1) 0) = true
    · obtain ⟨hc1, hc2, hc3⟩ := hc
      have hp := le_pend innerB s.data.toList (e + 1)
      have hq := pend_le (p := innerB) (L := s.data.toList) (i := e + 1) (by omega)
      simp only [pathGo]
      rw [if_pos ⟨hc1, hc2, hc3⟩]
      refine Ev.succ ?_
      simp only [whirligigref02_path.l0]
      rw [wrap_at (by omega) (by omega)]
      refine Ev.neg (by decide) (Ev.pos (by omega) (Ev.pos (by omega) (Ev.pos (by omega) ?_)))
      rw [bt_nat s e (by omega)]
      refine Ev.pos (by omega) (Ev.pos (by omega) ?_)
      rw [show ((e : Int) + 1) = ((e + 1 : Nat) : Int) from by omega, bt_nat s (e + 1) (by omega)]
      refine Ev.bind_some (letter_ev _) (Ev.pos hc3 (Ev.bind (rword_ev s hs (e + 1) (by omega)) ?_))
      rw [wrap_at (by omega) (by omega), show (((e + 1 : Nat) : Int) + ((pend innerB s.data.toList (e + 1) - (e + 1) : Nat) : Int)) = ((pend innerB s.data.toList (e + 1) : Nat) : Int) from by omega]
      by_cases hw : pend innerB s.data.toList (e + 1) - (e + 1) > 16
      · rw [if_pos hw, decide_eq_true (by omega)]
        refine Ev.succ ?_
        simp only [whirligigref02_path.l0]
        exact Ev.pos trivial (Ev.some rfl)
      · rw [if_neg hw, decide_eq_false (by omega)]
        exact rpath_l s hs i f (pend innerB s.data.toList (e + 1)) 2 (by omega) (by omega) (by omega)
    · simp only [pathGo]
      rw [if_neg hc]
      refine Ev.succ ?_
      simp only [whirligigref02_path.l0]
      refine Ev.neg (by decide) ?_
      rw [wrap_at (x := (e : Int) + 1) (by omega) (by omega)]
      by_cases h3 : e + 1 < s.size
      · refine Ev.pos (by omega) (Ev.pos (by omega) (Ev.pos (by omega) ?_))
        rw [bt_nat s e (by omega)]
        by_cases h4 : (s.data.toList.getD e 0).toNat = 46
        · refine Ev.pos (by omega) (Ev.pos (by omega) ?_)
          rw [show ((e : Int) + 1) = ((e + 1 : Nat) : Int) from by omega, bt_nat s (e + 1) (by omega)]
          have h5 : smallB (s.data.toList.getD (e + 1) 0) = false := by
            cases hb : smallB (s.data.toList.getD (e + 1) 0)
            · rfl
            · exact absurd ⟨by omega, h4, hb⟩ hc
          refine Ev.bind_some (letter_ev _) (Ev.neg (by rw [h5]; decide) (Ev.const hend))
        · exact Ev.neg (by omega) (Ev.const hend)
      · exact Ev.neg (by omega) (Ev.const hend)
theorem rpath_ev (s : ByteArray) (hs : s.size ≤ 1000000000000) (i : Nat) (hi : i < s.size) (hc : smallB (s.data.toList.getD i 0) = true) :
    Ev (fun k => whirligigref02_path.f k s (i : Int)) (RefRel (tokenAt s.data.toList i) i) := by
  have hl := len_size s
  have hp := le_pend innerB s.data.toList i
  have hq := pend_le (p := innerB) (L := s.data.toList) (i := i) (by omega)
  unfold whirligigref02_path.f tokenAt
  rw [if_pos hc]
  refine Ev.bind (rword_ev s hs i (by omega)) ?_
  rw [wrap_at (by omega) (by omega), show ((i : Int) + ((pend innerB s.data.toList i - i : Nat) : Int)) = ((pend innerB s.data.toList i : Nat) : Int) from by omega]
  by_cases hw : pend innerB s.data.toList i - i > 16
  · rw [if_pos hw, decide_eq_true (by omega)]
    refine Ev.succ ?_
    simp only [whirligigref02_path.l0]
    exact Ev.pos trivial (Ev.some rfl)
  · rw [if_neg hw, decide_eq_false (by omega)]
    have h := rpath_l s hs i (s.data.toList.length + 1) (pend innerB s.data.toList i) 1 hp (by omega) (by omega)
    cases hg : pathGo s.data.toList (s.data.toList.length + 1) (pend innerB s.data.toList i) 1 with
    | none => rw [hg] at h; exact h
    | some x =>
      obtain ⟨k', e'⟩ := x
      rw [hg] at h
      dsimp only at h ⊢
      by_cases h3 : e' - i > 32
      · rw [if_pos h3] at h; rw [if_pos h3]; exact h
      · rw [if_neg h3] at h; rw [if_neg h3, RefRel, ← ext_list]; exact h
theorem rplain_l (t : ByteArray) (ht : t.size ≤ 1000000000000) (d : Nat) : ∀ j, j ≤ t.size → t.size - j = d →
    Ev (fun k => whirligigref01_Plain.l0 k t (j : Int)) ((t.data.toList.drop j).all val_Plain.ok) := by
  have hl := len_size t
  induction d with
  | zero =>
    intro j hj hd
    rw [List.drop_eq_nil_of_le (by omega)]
    refine Ev.succ ?_
    simp only [whirligigref01_Plain.l0]
    exact Ev.neg (by omega) (Ev.some rfl)
  | succ d ih =>
    intro j hj hd
    rw [drop_at (by omega), List.all_cons]
    refine Ev.succ ?_
    simp only [whirligigref01_Plain.l0]
    rw [bt_nat t j (by omega)]
    generalize t.data.toList.getD j 0 = c
    refine Ev.pos (by omega) (Ev.pos (by omega) ?_)
    by_cases h1 : (c.toNat : Int) < 32
    · rw [plain_bad (.inl h1)]; exact Ev.pos h1 (Ev.some rfl)
    · by_cases h2 : 126 < (c.toNat : Int)
      · rw [plain_bad (.inr (.inl h2))]; exact Ev.neg h1 (Ev.pos h2 (Ev.some rfl))
      · by_cases h3 : (c.toNat : Int) = 39
        · rw [plain_bad (.inr (.inr h3))]; exact Ev.neg h1 (Ev.neg h2 (Ev.pos h3 (Ev.some rfl)))
        · rw [plain_ok_of h1 h2 h3, Bool.true_and, wrap_at (by omega) (by omega)]
          exact Ev.neg h1 (Ev.neg h2 (Ev.neg h3 (ih (j + 1) (by omega) (by omega))))
theorem rplain_ev (t : ByteArray) (ht : t.size ≤ 48) : Ev (fun k => whirligigref01_Plain.f k t) (t.data.toList.all val_Plain.ok) := by
  unfold whirligigref01_Plain.f
  exact Ev.neg (by omega) (rplain_l t (by omega) _ 0 (by omega) rfl)
theorem rquote_l (s : ByteArray) (hs : s.size ≤ 1000000000000) (i d : Nat) (r : Int × ByteArray × Int × Int × Int × Int) (hr : Ev (fun k => whirligigref02_quote.j1 k s (i : Int) ((pend noQuoteB s.data.toList (i + 1) : Nat) : Int)) r) : ∀ j, j ≤ s.size → s.size - j = d → pend noQuoteB s.data.toList (i + 1) = pend noQuoteB s.data.toList j →
    Ev (fun k => whirligigref02_quote.l0 k s (i : Int) (j : Int)) r := by
  have hl := len_size s
  induction d with
  | zero =>
    intro j hj hd he
    refine Ev.succ ?_
    simp only [whirligigref02_quote.l0]
    rw [pend_end (i := j) (by omega)] at he
    rw [he] at hr
    exact Ev.neg (by omega) hr
  | succ d ih =>
    intro j hj hd he
    refine Ev.succ ?_
    simp only [whirligigref02_quote.l0]
    rw [bt_nat s j (by omega)]
    refine Ev.pos (by omega) (Ev.pos (by omega) ?_)
    cases hb : noQuoteB (s.data.toList.getD j 0) with
    | true =>
      rw [pend_step (by omega) hb] at he
      rw [wrap_at (by omega) (by omega)]
      have hb' : (s.data.toList.getD j 0).toNat ≠ 39 := by
        intro e
        rw [noQuoteB, e] at hb
        exact absurd hb (by decide)
      exact Ev.neg (by omega) (ih (j + 1) (by omega) (by omega) he)
    | false =>
      rw [pend_stop (by omega) hb] at he
      rw [he] at hr
      have hb' : (s.data.toList.getD j 0).toNat = 39 := Decidable.byContradiction fun e => by
        rw [noQuoteB, bne_iff_ne.2 e] at hb
        cases hb
      exact Ev.pos (by omega) hr
theorem rquote_ev (s : ByteArray) (hs : s.size ≤ 1000000000000) (i : Nat) (hi : i < s.size) (hc : smallB (s.data.toList.getD i 0) = false) (hd : isDigit (s.data.toList.getD i 0) = false) (hq' : (s.data.toList.getD i 0).toNat = 39) :
    Ev (fun k => whirligigref02_quote.f k s (i : Int)) (RefRel (tokenAt s.data.toList i) i) := by
  have hl := len_size s
  have hp := le_pend noQuoteB s.data.toList (i + 1)
  have hq := pend_le (p := noQuoteB) (L := s.data.toList) (i := i + 1) (by omega)
  unfold whirligigref02_quote.f
  rw [wrap_at (by omega) (by omega), show ((i : Int) + 1) = ((i + 1 : Nat) : Int) from by omega]
  refine rquote_l s hs i _ _ ?_ (i + 1) (by omega) rfl rfl
  unfold tokenAt
  rw [if_neg (by rw [hc]; decide), if_neg (by rw [hd]; decide), if_pos hq']
  generalize pend noQuoteB s.data.toList (i + 1) = E at *
  have hz := ext_size (s := s) (i := i + 1) (e := E) (by omega)
  refine Ev.succ ?_
  simp only [whirligigref02_quote.j1]
  by_cases h1 : s.data.toList.length ≤ E
  · rw [if_pos h1]; exact Ev.pos (by omega) (Ev.some rfl)
  · rw [if_neg h1]
    refine Ev.neg (by omega) ?_
    rw [wrap_at (x := (E : Int) - (i : Int)) (by omega) (by omega), wrap_at (x := (E : Int) - (i : Int) - 1) (by omega) (by omega), wrap_at (x := (i : Int) + 1) (by omega) (by omega), wrap_at (x := (E : Int) + 1) (by omega) (by omega)]
    by_cases h2 : E - (i + 1) > 48
    · rw [if_pos h2]; exact Ev.pos (by omega) (Ev.some rfl)
    · rw [if_neg h2]
      refine Ev.neg (by omega) (Ev.pos (by omega) (Ev.pos (by omega) (Ev.pos (by omega) ?_)))
      rw [show ((i : Int) + 1) = ((i + 1 : Nat) : Int) from by omega, Int.toNat_natCast, Int.toNat_natCast]
      refine Ev.bind (rplain_ev _ (by omega)) ?_
      rw [ext_data]
      by_cases hb : (cut s.data.toList (i + 1) E).all val_Plain.ok = true
      · simp only [if_pos hb]
        exact Ev.some (by simp only [RefRel, ext_list]; rfl)
      · simp only [if_neg hb]
        exact Ev.some rfl
end Go.Proofs.YtbngfhlciebeeaaDoor.Sp
end
section
namespace Go.Proofs.YtbngfhlciebeeaaDoor.Sp
set_option linter.unusedVariables false
set_option linter.unusedSimpArgs false
open Go.RowKit Go.Proofs.YtbngfhlciebeeaaDoor.L Go.Proofs.YtbngfhlciebeeaaDoorW.PrintWords
def valN : List UInt8 → Nat → Nat
  | [], n => n
  | c :: l, n => valN l (n * 10 + (c.toNat - 48))
theorem valN_nil (n : Nat) : valN [] n = n := rfl
theorem valN_cons (c : UInt8) (l : List UInt8) (n : Nat) : valN (c :: l) n = valN l (n * 10 + (c.toNat - 48)) := rfl
theorem valN_ge : ∀ (l : List UInt8) (n : Nat), n ≤ valN l n
  | [], n => Nat.le_refl _
  | c :: l, n => by
    have := valN_ge l (n * 10 + (c.toNat - 48))
    simp only [valN]; omega
theorem digit_bounds {c : UInt8} (h : isDigit c = true) : 48 ≤ c.toNat ∧ c.toNat ≤ 57 := by
  unfold isDigit at h
  simp at h
  exact h
theorem numFold_val : ∀ (l : List UInt8) (n : Nat), n ≤ 9223372036854775807 → l.all isDigit = true → numFold l (n : Int) = if valN l n ≤ 9223372036854775807 then some ((valN l n : Nat) : Int) else none
  | [], n, hn, h => by rw [valN_nil, if_pos hn]; rfl
  | c :: l, n, hn, h => by
    rw [List.all_cons, Bool.and_eq_true] at h
    obtain ⟨hc, hl⟩ := h
    have hb := digit_bounds hc
    have hge := valN_ge l (n * 10 + (c.toNat - 48))
    rw [valN_cons]
    simp only [numFold]
    by_cases ho : (n : Int) > (9223372036854775807 - ((c.toNat : Int) - 48)) / 10
    · rw [if_pos ho, if_neg (by omega)]
    · rw [if_neg ho, show ((n : Int) * 10 + ((c.toNat : Int) - 48)) = ((n * 10 + (c.toNat - 48) : Nat) : Int) from by omega]
      exact numFold_val l _ (by omega) hl
def dec (n : Nat) : List UInt8 := if h : n < 10 then [UInt8.ofNat (48 + n)] else dec (n / 10) ++ [UInt8.ofNat (48 + n % 10)]
theorem dec_small {n : Nat} (h : n < 10) : dec n = [UInt8.ofNat (48 + n)] := by rw [dec, dif_pos h]
theorem dec_big {n : Nat} (h : ¬ n < 10) : dec n = dec (n / 10) ++ [UInt8.ofNat (48 + n % 10)] := by rw [dec, dif_neg h]
theorem dec_len : ∀ (k n : Nat), n < 10 ^ (k + 1) → (dec n).length ≤ k + 1
  | 0, n, h => by rw [dec_small (by simpa using h)]; simp
  | k + 1, n, h => by
    by_cases h1 : n < 10
    · rw [dec_small h1]; simp
    · rw [dec_big h1, List.length_append]
      have := dec_len k (n / 10) (by rw [Nat.pow_succ] at h; omega)
      simp; omega
theorem valN_snoc : ∀ (l : List UInt8) (c : UInt8) (n : Nat), valN (l ++ [c]) n = valN l n * 10 + (c.toNat - 48)
  | [], c, n => rfl
  | d :: l, c, n => by simp only [List.cons_append, valN]; exact valN_snoc l c _
theorem valN_pos : ∀ (l : List UInt8) (n : Nat), 0 < n → 0 < valN l n := fun l n h => by have := valN_ge l n; omega
theorem ofNat_digit {c : UInt8} (h : 48 ≤ c.toNat ∧ c.toNat ≤ 57) : UInt8.ofNat (48 + (c.toNat - 48)) = c := by
  rw [show 48 + (c.toNat - 48) = c.toNat from by omega]; exact UInt8.ofNat_toNat
theorem dec_val (n : Nat) : ∀ (l : List UInt8), l.length = n + 1 → l.all isDigit = true → (n = 0 ∨ (l.getD 0 0).toNat ≠ 48) → dec (valN l 0) = l := by
  induction n with
  | zero =>
    intro l hl ha _
    match l, hl with
    | [c], _ =>
      have hb := digit_bounds (c := c) (by simpa using ha)
      simp only [valN]
      rw [dec_small (by omega), show 48 + (0 * 10 + (c.toNat - 48)) = 48 + (c.toNat - 48) from by omega, ofNat_digit hb]
  | succ n ih =>
    intro l hl ha hz
    have hne : l ≠ [] := by intro e; rw [e] at hl; cases hl
    obtain ⟨l', c, rfl⟩ : ∃ l' c, l = l' ++ [c] := ⟨l.dropLast, l.getLast hne, (List.dropLast_concat_getLast hne).symm⟩
    rw [List.length_append] at hl
    have hl' : l'.length = n + 1 := by simpa using hl
    rw [List.all_append, Bool.and_eq_true] at ha
    have hb := digit_bounds (c := c) (by simpa using ha.2)
    have h0 : (l' ++ [c]).getD 0 0 = l'.getD 0 0 := by
      rw [List.getD_eq_getElem?_getD, List.getD_eq_getElem?_getD, List.getElem?_append_left (by omega)]
    have hz' : (l'.getD 0 0).toNat ≠ 48 := by
      rcases hz with h | h
      · omega
      · rw [h0] at h; exact h
    have hp : 0 < valN l' 0 := by
      match l', hl' with
      | d :: l', _ =>
        have hd := digit_bounds (c := d) (by have := ha.1; rw [List.all_cons, Bool.and_eq_true] at this; exact this.1)
        have hz2 : d.toNat ≠ 48 := hz'
        simp only [valN]
        exact valN_pos l' _ (by omega)
    rw [valN_snoc, dec_big (by omega), show (valN l' 0 * 10 + (c.toNat - 48)) / 10 = valN l' 0 from by omega, show (valN l' 0 * 10 + (c.toNat - 48)) % 10 = c.toNat - 48 from by omega, ofNat_digit hb, ih l' hl' ha.1 (.inr hz')]
theorem digits_ev : ∀ (f n : Nat), n < f → n ≤ 9223372036854775807 → Ev (fun k => whirligigref01_Digits.f k (n : Int)) ⟨(dec n).toArray⟩
  | 0, n, h, _ => by omega
  | f + 1, n, h, hn => by
    refine Ev.succ ?_
    simp only [whirligigref01_Digits.f]
    refine Ev.neg (by omega) (Ev.neg (by omega) ?_)
    have one : ∀ m : Nat, m < 10 → Go.strOfNums [(wrap64 (48 + (m : Int))) % 256] = ⟨(dec m).toArray⟩ := fun m hm => by
      rw [dec_small hm, wrap_at (by omega) (by omega)]
      unfold strOfNums
      rw [show ((48 + (m : Int)) % 256) = ((48 + m : Nat) : Int) from by omega, List.map_cons, List.map_nil, Int.toNat_natCast]
    by_cases h1 : n < 10
    · exact Ev.pos (by omega) (Ev.some (one n h1))
    · refine Ev.neg (by omega) ?_
      rw [show Int.tdiv (n : Int) 10 = ((n / 10 : Nat) : Int) from by rw [Int.tdiv_eq_ediv_of_nonneg (by omega)]; omega, show Int.tmod (n : Int) 10 = ((n % 10 : Nat) : Int) from by rw [Int.tmod_eq_emod_of_nonneg (by omega)]; omega, wrap_at (by omega) (by omega)]
      refine Ev.bind (digits_ev f (n / 10) (by omega) (by omega)) ?_
      refine Ev.bind (digits_ev f (n % 10) (by omega) (by omega)) ?_
      have l1 := dec_len 18 (n / 10) (by omega)
      have l2 := dec_len 18 (n % 10) (by omega)
      refine Ev.pos (by rw [size_mk, size_mk]; omega) (Ev.some ?_)
      rw [mk_append, dec_big h1, dec_small (n := n % 10) (by omega)]
theorem rnum_l (t : ByteArray) (ht : t.size ≤ 1000) (hall : t.data.toList.all isDigit = true) (d : Nat) : ∀ (j N : Nat), j ≤ t.size → t.size - j = d → N ≤ 9223372036854775808 →
    Ev (fun k => whirligigref01_Number.l0 k t t (-(N : Int)) (j : Int))
      (if valN (t.data.toList.drop j) N ≤ 9223372036854775807 then (((valN (t.data.toList.drop j) N : Nat) : Int), decide ((⟨(dec (valN (t.data.toList.drop j) N)).toArray⟩ : ByteArray) = t)) else (0, false)) := by
  have hl := len_size t
  induction d with
  | zero =>
    intro j N hj hd hN
    rw [List.drop_eq_nil_of_le (by omega)]
    rw [valN_nil]
    refine Ev.succ ?_
    simp only [whirligigref01_Number.l0]
    refine Ev.neg (by omega) (Ev.pos (by first | trivial | rfl) ?_)
    by_cases h : N = 9223372036854775808
    · rw [if_neg (by omega)]
      exact Ev.pos (by omega) (Ev.some rfl)
    · rw [if_pos (by omega)]
      refine Ev.neg (by omega) ?_
      rw [Int.neg_neg, wrap_at (by omega) (by omega)]
      exact Ev.bind (digits_ev (N + 1) N (by omega) (by omega)) (Ev.some (by rw [eq_lists]))
  | succ d ih =>
    intro j N hj hd hN
    have hlt : j < t.data.toList.length := by omega
    rw [drop_at hlt, valN_cons]
    have hc := digit_bounds (List.all_eq_true.1 hall (t.data.toList.getD j 0) (by rw [List.getD_eq_getElem?_getD, List.getElem?_eq_getElem hlt]; exact List.getElem_mem hlt))
    refine Ev.succ ?_
    simp only [whirligigref01_Number.l0]
    rw [bt_nat t j (by omega)]
    refine Ev.pos (by omega) (Ev.pos (by omega) (Ev.neg (by omega) ?_))
    rw [decide_eq_false (by omega)]
    refine Ev.succ ?_
    simp only [whirligigref01_Number.j4]
    rw [bt_nat t j (by omega)]
    generalize t.data.toList.getD j 0 = c at *
    have hge := valN_ge (t.data.toList.drop (j + 1)) (N * 10 + (c.toNat - 48))
    rw [show (((c.toNat : Int) - 48) % 256) = ((c.toNat - 48 : Nat) : Int) from by omega]
    generalize hD : c.toNat - 48 = D at *
    rw [show ((-9223372036854775808) + (D : Int)) = -(9223372036854775808 - (D : Int)) from by omega, Int.neg_tdiv, Int.tdiv_eq_ediv_of_nonneg (by omega)]
    refine Ev.neg (by decide) (Ev.pos (by omega) (Ev.pos (by omega) ?_))
    by_cases ho : -(N : Int) < -((9223372036854775808 - (D : Int)) / 10)
    · rw [if_neg (by omega)]
      exact Ev.pos ho (Ev.some rfl)
    · refine Ev.neg ho ?_
      rw [wrap_at (x := 10 * -(N : Int)) (by omega) (by omega), wrap_at (by omega) (by omega), wrap_at (by omega) (by omega), show (10 * -(N : Int) - (D : Int)) = -((N * 10 + D : Nat) : Int) from by omega]
      exact ih (j + 1) (N * 10 + D) (by omega) (by omega) (by omega)
theorem rnum_ev (t : ByteArray) (ht : t.size ≤ 1000000000000) (h0 : 0 < t.size) (hall : t.data.toList.all isDigit = true) (hz : t.size = 1 ∨ (t.data.toList.getD 0 0).toNat ≠ 48) :
    Ev (fun k => whirligigref01_Number.f k t) (match numFold t.data.toList 0 with | some n => (n, true) | none => (0, false)) := by
  have hl := len_size t
  have hd0 := digit_bounds (List.all_eq_true.1 hall (t.data.toList.getD 0 0) (by rw [List.getD_eq_getElem?_getD, List.getElem?_eq_getElem (by omega)]; exact List.getElem_mem (by omega)))
  unfold whirligigref01_Number.f
  rw [show bt t 0 = ((t.data.toList.getD 0 0).toNat : Int) from bt_nat t 0 h0]
  refine Ev.pos (by omega) (Ev.pos (by omega) ?_)
  rw [show (((t.data.toList.getD 0 0).toNat : Int) == 45) = false from by rw [beq_eq_false_iff_ne]; omega]
  refine Ev.succ ?_
  simp only [whirligigref01_Number.j0]
  refine Ev.neg (by decide) (Ev.succ ?_)
  simp only [whirligigref01_Number.j1]
  refine Ev.neg (by omega) (Ev.succ ?_)
  simp only [whirligigref01_Number.j2]
  have hf := numFold_val t.data.toList 0 (by omega) hall
  rw [show ((0 : Nat) : Int) = 0 from rfl] at hf
  rw [hf]
  have hdv := dec_val (t.size - 1) t.data.toList (by omega) hall (hz.imp (by omega) id)
  by_cases h19 : t.size > 19
  · rw [decide_eq_true (by omega)]
    have : ¬ valN t.data.toList 0 ≤ 9223372036854775807 := fun h => by
      have := dec_len 18 (valN t.data.toList 0) (by omega)
      rw [hdv] at this
      omega
    rw [if_neg this]
    exact Ev.pos rfl (Ev.some rfl)
  · rw [decide_eq_false (by omega)]
    refine Ev.neg (by decide) ?_
    have h := rnum_l t (by omega) hall t.size 0 0 (by omega) rfl (by omega)
    rw [List.drop_zero] at h
    by_cases hv : valN t.data.toList 0 ≤ 9223372036854775807
    · rw [if_pos hv] at h
      rw [if_pos hv]
      rw [hdv, decide_eq_true (by exact ext_bytes rfl)] at h
      exact h
    · rw [if_neg hv] at h
      rw [if_neg hv]
      exact h
theorem rnumber_l (s : ByteArray) (hs : s.size ≤ 1000000000000) (i d : Nat) (r : Int × ByteArray × Int × Int × Int × Int) (hr : Ev (fun k => whirligigref02_number.j1 k s (i : Int) ((pend isDigit s.data.toList i : Nat) : Int)) r) : ∀ j, j ≤ s.size → s.size - j = d → pend isDigit s.data.toList i = pend isDigit s.data.toList j →
    Ev (fun k => whirligigref02_number.l0 k s (i : Int) (j : Int)) r := by
  have hl := len_size s
  induction d with
  | zero =>
    intro j hj hd he
    refine Ev.succ ?_
    simp only [whirligigref02_number.l0]
    rw [pend_end (i := j) (by omega)] at he
    rw [he] at hr
    exact Ev.neg (by omega) hr
  | succ d ih =>
    intro j hj hd he
    refine Ev.succ ?_
    simp only [whirligigref02_number.l0]
    rw [bt_nat s j (by omega)]
    refine Ev.pos (by omega) (Ev.pos (by omega) ?_)
    cases hb : isDigit (s.data.toList.getD j 0) with
    | true =>
      have hb' := digit_bounds hb
      rw [pend_step (by omega) hb] at he
      rw [wrap_at (by omega) (by omega)]
      exact Ev.pos (by omega) (Ev.pos (by omega) (ih (j + 1) (by omega) (by omega) he))
    | false =>
      rw [pend_stop (by omega) hb] at he
      rw [he] at hr
      unfold isDigit at hb
      by_cases h1 : 48 ≤ (s.data.toList.getD j 0).toNat
      · rw [decide_eq_true h1, Bool.true_and, decide_eq_false_iff_not] at hb
        exact Ev.pos (by omega) (Ev.neg (by omega) hr)
      · exact Ev.neg (by omega) hr
theorem rnumber_ev (s : ByteArray) (hs : s.size ≤ 1000000000000) (i : Nat) (hi : i < s.size) (hc : smallB (s.data.toList.getD i 0) = false) (hd : isDigit (s.data.toList.getD i 0) = true) :
    Ev (fun k => whirligigref02_number.f k s (i : Int)) (RefRel (tokenAt s.data.toList i) i) := by
  have hl := len_size s
  have hp := le_pend isDigit s.data.toList (i + 1)
  have hst := pend_step (p := isDigit) (L := s.data.toList) (i := i) (by omega) hd
  have hq := pend_le (p := isDigit) (L := s.data.toList) (i := i) (by omega)
  unfold whirligigref02_number.f
  refine rnumber_l s hs i _ _ ?_ i (by omega) rfl rfl
  have hall : (s.extract i (pend isDigit s.data.toList i)).data.toList.all isDigit = true := by
    rw [ext_data, cut_pend]
    exact List.all_takeWhile
  have h2 : (s.extract i (pend isDigit s.data.toList i)).data.toList.getD 0 0 = s.data.toList.getD i 0 := by
    rw [ext_data, cut_pend, drop_at (by omega), List.takeWhile_cons_of_pos hd]; rfl
  have hz := ext_size (s := s) (i := i) (e := pend isDigit s.data.toList i) (by omega)
  unfold tokenAt
  rw [if_neg (by rw [hc]; decide), if_pos hd]
  generalize hE : pend isDigit s.data.toList i = E at *
  refine Ev.succ ?_
  simp only [whirligigref02_number.j1]
  rw [bt_nat s i hi, wrap_at (by omega) (by omega)]
  refine Ev.pos (by omega) (Ev.pos (by omega) ?_)
  have hgo : (¬ (E - i > 1 ∧ (s.data.toList.getD i 0).toNat = 48)) → Ev (fun k => whirligigref02_number.j2 k s (i : Int) (E : Int) false) (RefRel (match numFold (cut s.data.toList i E) 0 with | none => .error 21 | some n => .ok (3, cut s.data.toList i E, n, E)) i) := fun hn => by
    refine Ev.succ ?_
    simp only [whirligigref02_number.j2]
    refine Ev.neg (by decide) (Ev.pos (by omega) (Ev.pos (by omega) (Ev.pos (by omega) ?_)))
    rw [Int.toNat_natCast, Int.toNat_natCast]
    refine Ev.bind (rnum_ev _ (by omega) (by omega) hall (by rw [h2, hz]; omega)) ?_
    rw [ext_data]
    cases numFold (cut s.data.toList i E) 0 with
    | none => exact Ev.neg (by decide) (Ev.some rfl)
    | some n => exact Ev.pos rfl (Ev.some (by simp only [RefRel, ext_list]))
  by_cases h48 : (s.data.toList.getD i 0).toNat = 48
  · refine Ev.pos (by omega) ?_
    by_cases h1 : E - i > 1
    · rw [if_pos ⟨h1, h48⟩, decide_eq_true (by omega)]
      refine Ev.succ ?_
      simp only [whirligigref02_number.j2]
      exact Ev.pos trivial (Ev.some rfl)
    · rw [if_neg (fun h => h1 h.1), decide_eq_false (by omega)]
      exact hgo (fun h => h1 h.1)
  · rw [if_neg (fun h => h48 h.2)]
    exact Ev.neg (by omega) (hgo (fun h => h48 h.2))
end Go.Proofs.YtbngfhlciebeeaaDoor.Sp
end
