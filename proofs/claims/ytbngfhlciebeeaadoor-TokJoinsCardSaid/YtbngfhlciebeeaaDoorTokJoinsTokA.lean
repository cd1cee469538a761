/- Printed and hand-written steps towards the row (TokJoins), those that it reaches. -/
import Derived.Test.YtbngfhlciebeeaaDoorTokJoinsEv
import Derived.Test.YtbngfhlciebeeaaDoorTokJoinsLxf69
namespace Go.Proofs.YtbngfhlciebeeaaDoor.Sp
set_option linter.unusedVariables false
set_option linter.unusedSimpArgs false
open Go.RowKit Go.Proofs.YtbngfhlciebeeaaDoor.L Go.Proofs.YtbngfhlciebeeaaDoorW.PrintWords
theorem small_ev (c : UInt8) : tok_small.f (c.toNat : Int) = some (smallB c) := by
  unfold tok_small.f smallB
  by_cases h : 97 ≤ c.toNat
  · rw [if_pos (by omega), decide_eq_true h, Bool.true_and]
    exact congrArg some (decide_eq_decide.2 (by omega))
  · rw [if_neg (by omega), decide_eq_false h]; rfl
theorem digit_ev (c : UInt8) : tok_digit.f (c.toNat : Int) = some (isDigit c) := by
  unfold tok_digit.f isDigit
  by_cases h : 48 ≤ c.toNat
  · rw [if_pos (by omega), decide_eq_true h, Bool.true_and]
    exact congrArg some (decide_eq_decide.2 (by omega))
  · rw [if_neg (by omega), decide_eq_false h]; rfl
theorem beq_cast (a b : Nat) : ((a : Int) == (b : Int)) = (a == b) := by
  by_cases h : a = b
  · subst h; simp
  · rw [beq_eq_false_iff_ne.2 h, beq_eq_false_iff_ne]; omega
theorem word_1_ev (c : UInt8) : tok_reader_word_1.f (c.toNat : Int) = some (innerB c) := by
  unfold tok_reader_word_1.f innerB
  rw [small_ev, digit_ev]
  simp only [Option.bind_some]
  cases smallB c
  · cases isDigit c
    · simp; exact beq_cast _ 95
    · rfl
  · rfl
theorem quote_1_ev (c : UInt8) : tok_reader_quote_1.f (c.toNat : Int) = some (noQuoteB c) := by
  unfold tok_reader_quote_1.f noQuoteB
  exact congrArg some (by simp only [bne]; rw [show (39 : Int) = ((39 : Nat) : Int) from rfl, beq_cast])
theorem Lex_1_ev (c : UInt8) : tok_Lex_1.f (c.toNat : Int) = some (blankB c) := by
  unfold tok_Lex_1.f blankB
  exact congrArg some (beq_cast _ 32)
theorem while_word_l (s : ByteArray) (hs : s.size ≤ 1000000000000) (a d : Nat) : ∀ j, a ≤ j → j ≤ s.size → s.size - j = d →
    Ev (fun k => tok_reader_while_word.l0 k (a : Int) s (j : Int)) (s.extract a (pend innerB s.data.toList j), s, ((pend innerB s.data.toList j : Nat) : Int)) := by
  have hl := len_size s
  induction d with
  | zero =>
    intro j ha hj hd
    obtain rfl : j = s.size := by omega
    rw [pend_end (by omega)]
    refine Ev.succ ?_
    simp only [tok_reader_while_word.l0]
    exact Ev.neg (by omega) (Ev.pos (by omega) (Ev.pos (by omega) (Ev.pos (by omega) (Ev.some (by simp)))))
  | succ d ih =>
    intro j ha hj hd
    refine Ev.succ ?_
    simp only [tok_reader_while_word.l0]
    refine Ev.pos (by omega) (Ev.pos (by omega) ?_)
    rw [bt_nat s j (by omega)]
    refine Ev.bind_some (word_1_ev _) ?_
    cases hb : innerB (s.data.toList.getD j 0) with
    | true =>
      rw [pend_step (by omega) hb]
      refine Ev.pos rfl ?_
      rw [wrap_at (by omega) (by omega)]
      exact ih (j + 1) (by omega) (by omega) (by omega)
    | false =>
      rw [pend_stop (by omega) hb]
      exact Ev.neg (by decide) (Ev.pos (by omega) (Ev.pos (by omega) (Ev.pos (by omega) (Ev.some (by simp)))))
theorem while_word_ev (s : ByteArray) (hs : s.size ≤ 1000000000000) (i : Nat) (hi : i ≤ s.size) :
    Ev (fun k => tok_reader_while_word.f k s (i : Int)) (s.extract i (pend innerB s.data.toList i), s, ((pend innerB s.data.toList i : Nat) : Int)) := by
  unfold tok_reader_while_word.f
  exact while_word_l s hs i _ i (Nat.le_refl _) hi rfl
theorem while_digit_l (s : ByteArray) (hs : s.size ≤ 1000000000000) (a d : Nat) : ∀ j, a ≤ j → j ≤ s.size → s.size - j = d →
    Ev (fun k => tok_reader_while_digit.l0 k (a : Int) s (j : Int)) (s.extract a (pend isDigit s.data.toList j), s, ((pend isDigit s.data.toList j : Nat) : Int)) := by
  have hl := len_size s
  induction d with
  | zero =>
    intro j ha hj hd
    obtain rfl : j = s.size := by omega
    rw [pend_end (by omega)]
    refine Ev.succ ?_
    simp only [tok_reader_while_digit.l0]
    exact Ev.neg (by omega) (Ev.pos (by omega) (Ev.pos (by omega) (Ev.pos (by omega) (Ev.some (by simp)))))
  | succ d ih =>
    intro j ha hj hd
    refine Ev.succ ?_
    simp only [tok_reader_while_digit.l0]
    refine Ev.pos (by omega) (Ev.pos (by omega) ?_)
    rw [bt_nat s j (by omega)]
    refine Ev.bind_some (digit_ev _) ?_
    cases hb : isDigit (s.data.toList.getD j 0) with
    | true =>
      rw [pend_step (by omega) hb]
      refine Ev.pos rfl ?_
      rw [wrap_at (by omega) (by omega)]
      exact ih (j + 1) (by omega) (by omega) (by omega)
    | false =>
      rw [pend_stop (by omega) hb]
      exact Ev.neg (by decide) (Ev.pos (by omega) (Ev.pos (by omega) (Ev.pos (by omega) (Ev.some (by simp)))))
theorem while_digit_ev (s : ByteArray) (hs : s.size ≤ 1000000000000) (i : Nat) (hi : i ≤ s.size) :
    Ev (fun k => tok_reader_while_digit.f k s (i : Int)) (s.extract i (pend isDigit s.data.toList i), s, ((pend isDigit s.data.toList i : Nat) : Int)) := by
  unfold tok_reader_while_digit.f
  exact while_digit_l s hs i _ i (Nat.le_refl _) hi rfl
theorem while_quote_l (s : ByteArray) (hs : s.size ≤ 1000000000000) (a d : Nat) : ∀ j, a ≤ j → j ≤ s.size → s.size - j = d →
    Ev (fun k => tok_reader_while_quote.l0 k (a : Int) s (j : Int)) (s.extract a (pend noQuoteB s.data.toList j), s, ((pend noQuoteB s.data.toList j : Nat) : Int)) := by
  have hl := len_size s
  induction d with
  | zero =>
    intro j ha hj hd
    obtain rfl : j = s.size := by omega
    rw [pend_end (by omega)]
    refine Ev.succ ?_
    simp only [tok_reader_while_quote.l0]
    exact Ev.neg (by omega) (Ev.pos (by omega) (Ev.pos (by omega) (Ev.pos (by omega) (Ev.some (by simp)))))
  | succ d ih =>
    intro j ha hj hd
    refine Ev.succ ?_
    simp only [tok_reader_while_quote.l0]
    refine Ev.pos (by omega) (Ev.pos (by omega) ?_)
    rw [bt_nat s j (by omega)]
    refine Ev.bind_some (quote_1_ev _) ?_
    cases hb : noQuoteB (s.data.toList.getD j 0) with
    | true =>
      rw [pend_step (by omega) hb]
      refine Ev.pos rfl ?_
      rw [wrap_at (by omega) (by omega)]
      exact ih (j + 1) (by omega) (by omega) (by omega)
    | false =>
      rw [pend_stop (by omega) hb]
      exact Ev.neg (by decide) (Ev.pos (by omega) (Ev.pos (by omega) (Ev.pos (by omega) (Ev.some (by simp)))))
theorem while_quote_ev (s : ByteArray) (hs : s.size ≤ 1000000000000) (i : Nat) (hi : i ≤ s.size) :
    Ev (fun k => tok_reader_while_quote.f k s (i : Int)) (s.extract i (pend noQuoteB s.data.toList i), s, ((pend noQuoteB s.data.toList i : Nat) : Int)) := by
  unfold tok_reader_while_quote.f
  exact while_quote_l s hs i _ i (Nat.le_refl _) hi rfl
theorem while_blank_l (s : ByteArray) (hs : s.size ≤ 1000000000000) (a d : Nat) : ∀ j, a ≤ j → j ≤ s.size → s.size - j = d →
    Ev (fun k => tok_reader_while_blank.l0 k (a : Int) s (j : Int)) (s.extract a (pend blankB s.data.toList j), s, ((pend blankB s.data.toList j : Nat) : Int)) := by
  have hl := len_size s
  induction d with
  | zero =>
    intro j ha hj hd
    obtain rfl : j = s.size := by omega
    rw [pend_end (by omega)]
    refine Ev.succ ?_
    simp only [tok_reader_while_blank.l0]
    exact Ev.neg (by omega) (Ev.pos (by omega) (Ev.pos (by omega) (Ev.pos (by omega) (Ev.some (by simp)))))
  | succ d ih =>
    intro j ha hj hd
    refine Ev.succ ?_
    simp only [tok_reader_while_blank.l0]
    refine Ev.pos (by omega) (Ev.pos (by omega) ?_)
    rw [bt_nat s j (by omega)]
    refine Ev.bind_some (Lex_1_ev _) ?_
    cases hb : blankB (s.data.toList.getD j 0) with
    | true =>
      rw [pend_step (by omega) hb]
      refine Ev.pos rfl ?_
      rw [wrap_at (by omega) (by omega)]
      exact ih (j + 1) (by omega) (by omega) (by omega)
    | false =>
      rw [pend_stop (by omega) hb]
      exact Ev.neg (by decide) (Ev.pos (by omega) (Ev.pos (by omega) (Ev.pos (by omega) (Ev.some (by simp)))))
theorem while_blank_ev (s : ByteArray) (hs : s.size ≤ 1000000000000) (i : Nat) (hi : i ≤ s.size) :
    Ev (fun k => tok_reader_while_blank.f k s (i : Int)) (s.extract i (pend blankB s.data.toList i), s, ((pend blankB s.data.toList i : Nat) : Int)) := by
  unfold tok_reader_while_blank.f
  exact while_blank_l s hs i _ i (Nat.le_refl _) hi rfl
theorem word_ev (s : ByteArray) (hs : s.size ≤ 1000000000000) (i : Nat) (hi : i ≤ s.size) :
    Ev (fun k => tok_reader_word.f k s (i : Int)) (s.extract i (pend innerB s.data.toList i), s, ((pend innerB s.data.toList i : Nat) : Int)) := by
  unfold tok_reader_word.f
  exact Ev.bind (while_word_ev s hs i hi) (Ev.some rfl)
end Go.Proofs.YtbngfhlciebeeaaDoor.Sp
