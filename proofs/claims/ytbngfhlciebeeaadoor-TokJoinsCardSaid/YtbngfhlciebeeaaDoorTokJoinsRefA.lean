/- Printed and hand-written steps towards the row (TokJoins), those that it reaches. -/
import Derived.Test.YtbngfhlciebeeaaDoorTokJoinsTokB
import Derived.Test.YtbngfhlciebeeaaDoorTokJoinsLxf112
namespace Go.Proofs.YtbngfhlciebeeaaDoor.Sp
set_option linter.unusedVariables false
set_option linter.unusedSimpArgs false
open Go.RowKit Go.Proofs.YtbngfhlciebeeaaDoor.L Go.Proofs.YtbngfhlciebeeaaDoorW.PrintWords
theorem letter_ev (c : UInt8) : whirligigref02_letter.f (c.toNat : Int) = some (smallB c) := by
  unfold whirligigref02_letter.f smallB
  by_cases h : 97 ≤ c.toNat
  · rw [if_pos (by omega), decide_eq_true h, Bool.true_and]
    exact congrArg some (decide_eq_decide.2 (by omega))
  · rw [if_neg (by omega), decide_eq_false h]; rfl
theorem inner_ev (c : UInt8) : whirligigref02_inner.f (c.toNat : Int) = some (innerB c) := by
  unfold whirligigref02_inner.f innerB isDigit
  rw [letter_ev]
  simp only [Option.bind_some]
  cases smallB c
  · by_cases h : 48 ≤ c.toNat
    · by_cases h2 : c.toNat ≤ 57
      · rw [if_neg (by decide), if_pos (by omega), if_pos (by omega), decide_eq_true h, decide_eq_true h2]; rfl
      · rw [if_neg (by decide), if_pos (by omega), if_neg (by omega), decide_eq_true h, decide_eq_false h2]
        exact congrArg some (beq_cast _ 95)
    · rw [if_neg (by decide), if_neg (by omega), decide_eq_false h]
      exact congrArg some (beq_cast _ 95)
  · rfl
theorem rword_l (s : ByteArray) (hs : s.size ≤ 1000000000000) (i d : Nat) : ∀ n, i + n ≤ s.size → s.size - (i + n) = d →
    Ev (fun k => whirligigref02_word.l0 k s (i : Int) (n : Int)) (((pend innerB s.data.toList (i + n) - i : Nat)) : Int) := by
  have hl := len_size s
  induction d with
  | zero =>
    intro n hn hd
    rw [pend_end (by omega)]
    refine Ev.succ ?_
    simp only [whirligigref02_word.l0]
    rw [wrap_at (by omega) (by omega)]
    exact Ev.neg (by omega) (Ev.some (by omega))
  | succ d ih =>
    intro n hn hd
    refine Ev.succ ?_
    simp only [whirligigref02_word.l0]
    rw [wrap_at (by omega) (by omega), show ((i : Int) + (n : Int)) = ((i + n : Nat) : Int) from by omega, bt_nat s (i + n) (by omega)]
    refine Ev.pos (by omega) (Ev.pos (by omega) (Ev.bind_some (inner_ev _) ?_))
    cases hb : innerB (s.data.toList.getD (i + n) 0) with
    | true =>
      rw [pend_step (by omega) hb]
      refine Ev.pos rfl ?_
      rw [wrap_at (by omega) (by omega)]
      exact ih (n + 1) (by omega) (by omega)
    | false =>
      rw [pend_stop (by omega) hb]
      exact Ev.neg (by decide) (Ev.some (by omega))
theorem rword_ev (s : ByteArray) (hs : s.size ≤ 1000000000000) (i : Nat) (hi : i ≤ s.size) : Ev (fun k => whirligigref02_word.f k s (i : Int)) ((pend innerB s.data.toList i - i : Nat) : Int) :=
  rword_l s hs i _ 0 (by omega) rfl
def RefRel (x : Except Int (Int × List UInt8 × Int × Nat)) (i : Nat) : Int × ByteArray × Int × Int × Int × Int :=
  match x with
  | .error e => (0, ⟨#[]⟩, 0, 0, (i : Int), e)
  | .ok (k, t, n, e) => (k, ⟨t.toArray⟩, n, (i : Int), (e : Int), 0)
theorem rpath_l (s : ByteArray) (hs : s.size ≤ 1000000000000) (i : Nat) : ∀ (f e : Nat) (kd : Int), i ≤ e → e ≤ s.size → s.size - e < f →
    Ev (fun k => whirligigref02_path.l0 k s (i : Int) (e : Int) kd false)
      (match pathGo s.data.toList f e kd with
      | none => (0, ⟨#[]⟩, 0, 0, (i : Int), 15)
      | some (k', e') => if e' - i > 32 then (0, ⟨#[]⟩, 0, 0, (i : Int), 15) else (k', s.extract i e', 0, (i : Int), (e' : Int), 0))
  | 0, e, kd, h0, h1, h2 => by omega
  | f + 1, e, kd, h0, h1, h2 => by
    have hl := len_size s
    have hend : ∀ k' : Nat, (if (wrap64 ((e : Int) - (i : Int))) > 32 then (some ((0 : Int), (⟨#[]⟩ : ByteArray), (0 : Int), (0 : Int), (i : Int), (15 : Int))) else (if 0 ≤ (i : Int) then (if (i : Int) ≤ (e : Int) then (if (e : Int) ≤ (s.size : Int) then (some (kd, s.extract ((i : Int) : Int).toNat ((e : Int) : Int).toNat, 0, (i : Int), (e : Int), 0)) else (none)) else (none)) else (none))) = some (if e - i > 32 then (0, ⟨#[]⟩, 0, 0, (i : Int), 15) else (kd, s.extract i e, 0, (i : Int), (e : Int), 0)) := fun k' => by
      rw [wrap_at (by omega) (by omega)]
      by_cases h : e - i > 32
      · rw [if_pos (by omega), if_pos h]
      · rw [if_neg (by omega), if_neg h, if_pos (by omega), if_pos (by omega), if_pos (by omega)]; simp
    by_cases hc : e + 1 < s.data.toList.length ∧ (s.data.toList.getD e 0).toNat = 46 ∧ smallB (s.data.toList.getD (e + 1) 0) = true
    · obtain ⟨hc1, hc2, hc3⟩ := hc
      have hp := le_pend innerB s.data.toList (e + 1)
      have hq := pend_le (p := innerB) (L := s.data.toList) (i := e + 1) (by omega)
      simp only [pathGo]
      rw [if_pos ⟨hc1, hc2, hc3⟩]
      refine Ev.succ ?_
      simp only [whirligigref02_path.l0]
      rw [wrap_at (by omega) (by omega)]
      refine Ev.neg (by decide) (Ev.pos (by omega) (Ev.pos (by omega) (Ev.pos (by omega) ?_)))
      rw [bt_nat s e (by omega)]
      refine Ev.pos (by omega) (Ev.pos (by omega) ?_)
      rw [show ((e : Int) + 1) = ((e + 1 : Nat) : Int) from by omega, bt_nat s (e + 1) (by omega)]
      refine Ev.bind_some (letter_ev _) (Ev.pos hc3 (Ev.bind (rword_ev s hs (e + 1) (by omega)) ?_))
      rw [wrap_at (by omega) (by omega), show (((e + 1 : Nat) : Int) + ((pend innerB s.data.toList (e + 1) - (e + 1) : Nat) : Int)) = ((pend innerB s.data.toList (e + 1) : Nat) : Int) from by omega]
      by_cases hw : pend innerB s.data.toList (e + 1) - (e + 1) > 16
      · rw [if_pos hw, decide_eq_true (by omega)]
        refine Ev.succ ?_
        simp only [whirligigref02_path.l0]
        exact Ev.pos trivial (Ev.some rfl)
      · rw [if_neg hw, decide_eq_false (by omega)]
        exact rpath_l s hs i f (pend innerB s.data.toList (e + 1)) 2 (by omega) (by omega) (by omega)
    · simp only [pathGo]
      rw [if_neg hc]
      refine Ev.succ ?_
      simp only [whirligigref02_path.l0]
      refine Ev.neg (by decide) ?_
      rw [wrap_at (x := (e : Int) + 1) (by omega) (by omega)]
      by_cases h3 : e + 1 < s.size
      · refine Ev.pos (by omega) (Ev.pos (by omega) (Ev.pos (by omega) ?_))
        rw [bt_nat s e (by omega)]
        by_cases h4 : (s.data.toList.getD e 0).toNat = 46
        · refine Ev.pos (by omega) (Ev.pos (by omega) ?_)
          rw [show ((e : Int) + 1) = ((e + 1 : Nat) : Int) from by omega, bt_nat s (e + 1) (by omega)]
          have h5 : smallB (s.data.toList.getD (e + 1) 0) = false := by
            cases hb : smallB (s.data.toList.getD (e + 1) 0)
            · rfl
            · exact absurd ⟨by omega, h4, hb⟩ hc
          refine Ev.bind_some (letter_ev _) (Ev.neg (by rw [h5]; decide) (Ev.const hend))
        · exact Ev.neg (by omega) (Ev.const hend)
      · exact Ev.neg (by omega) (Ev.const hend)
theorem rpath_ev (s : ByteArray) (hs : s.size ≤ 1000000000000) (i : Nat) (hi : i < s.size) (hc : smallB (s.data.toList.getD i 0) = true) :
    Ev (fun k => whirligigref02_path.f k s (i : Int)) (RefRel (tokenAt s.data.toList i) i) := by
  have hl := len_size s
  have hp := le_pend innerB s.data.toList i
  have hq := pend_le (p := innerB) (L := s.data.toList) (i := i) (by omega)
  unfold whirligigref02_path.f tokenAt
  rw [if_pos hc]
  refine Ev.bind (rword_ev s hs i (by omega)) ?_
  rw [wrap_at (by omega) (by omega), show ((i : Int) + ((pend innerB s.data.toList i - i : Nat) : Int)) = ((pend innerB s.data.toList i : Nat) : Int) from by omega]
  by_cases hw : pend innerB s.data.toList i - i > 16
  · rw [if_pos hw, decide_eq_true (by omega)]
    refine Ev.succ ?_
    simp only [whirligigref02_path.l0]
    exact Ev.pos trivial (Ev.some rfl)
  · rw [if_neg hw, decide_eq_false (by omega)]
    have h := rpath_l s hs i (s.data.toList.length + 1) (pend innerB s.data.toList i) 1 hp (by omega) (by omega)
    cases hg : pathGo s.data.toList (s.data.toList.length + 1) (pend innerB s.data.toList i) 1 with
    | none => rw [hg] at h; exact h
    | some x =>
      obtain ⟨k', e'⟩ := x
      rw [hg] at h
      dsimp only at h ⊢
      by_cases h3 : e' - i > 32
      · rw [if_pos h3] at h; rw [if_pos h3]; exact h
      · rw [if_neg h3] at h; rw [if_neg h3, RefRel, ← ext_list]; exact h
theorem rplain_l (t : ByteArray) (ht : t.size ≤ 1000000000000) (d : Nat) : ∀ j, j ≤ t.size → t.size - j = d →
    Ev (fun k => whirligigref01_Plain.l0 k t (j : Int)) ((t.data.toList.drop j).all val_Plain.ok) := by
  have hl := len_size t
  induction d with
  | zero =>
    intro j hj hd
    rw [List.drop_eq_nil_of_le (by omega)]
    refine Ev.succ ?_
    simp only [whirligigref01_Plain.l0]
    exact Ev.neg (by omega) (Ev.some rfl)
  | succ d ih =>
    intro j hj hd
    rw [drop_at (by omega), List.all_cons]
    refine Ev.succ ?_
    simp only [whirligigref01_Plain.l0]
    rw [bt_nat t j (by omega)]
    generalize t.data.toList.getD j 0 = c
    refine Ev.pos (by omega) (Ev.pos (by omega) ?_)
    by_cases h1 : (c.toNat : Int) < 32
    · rw [plain_bad (.inl h1)]; exact Ev.pos h1 (Ev.some rfl)
    · by_cases h2 : 126 < (c.toNat : Int)
      · rw [plain_bad (.inr (.inl h2))]; exact Ev.neg h1 (Ev.pos h2 (Ev.some rfl))
      · by_cases h3 : (c.toNat : Int) = 39
        · rw [plain_bad (.inr (.inr h3))]; exact Ev.neg h1 (Ev.neg h2 (Ev.pos h3 (Ev.some rfl)))
        · rw [plain_ok_of h1 h2 h3, Bool.true_and, wrap_at (by omega) (by omega)]
          exact Ev.neg h1 (Ev.neg h2 (Ev.neg h3 (ih (j + 1) (by omega) (by omega))))
theorem rplain_ev (t : ByteArray) (ht : t.size ≤ 48) : Ev (fun k => whirligigref01_Plain.f k t) (t.data.toList.all val_Plain.ok) := by
  unfold whirligigref01_Plain.f
  exact Ev.neg (by omega) (rplain_l t (by omega) _ 0 (by omega) rfl)
theorem rquote_l (s : ByteArray) (hs : s.size ≤ 1000000000000) (i d : Nat) (r : Int × ByteArray × Int × Int × Int × Int) (hr : Ev (fun k => whirligigref02_quote.j1 k s (i : Int) ((pend noQuoteB s.data.toList (i + 1) : Nat) : Int)) r) : ∀ j, j ≤ s.size → s.size - j = d → pend noQuoteB s.data.toList (i + 1) = pend noQuoteB s.data.toList j →
    Ev (fun k => whirligigref02_quote.l0 k s (i : Int) (j : Int)) r := by
  have hl := len_size s
  induction d with
  | zero =>
    intro j hj hd he
    refine Ev.succ ?_
    simp only [whirligigref02_quote.l0]
    rw [pend_end (i := j) (by omega)] at he
    rw [he] at hr
    exact Ev.neg (by omega) hr
  | succ d ih =>
    intro j hj hd he
    refine Ev.succ ?_
    simp only [whirligigref02_quote.l0]
    rw [bt_nat s j (by omega)]
    refine Ev.pos (by omega) (Ev.pos (by omega) ?_)
    cases hb : noQuoteB (s.data.toList.getD j 0) with
    | true =>
      rw [pend_step (by omega) hb] at he
      rw [wrap_at (by omega) (by omega)]
      have hb' : (s.data.toList.getD j 0).toNat ≠ 39 := by
        intro e
        rw [noQuoteB, e] at hb
        exact absurd hb (by decide)
      exact Ev.neg (by omega) (ih (j + 1) (by omega) (by omega) he)
    | false =>
      rw [pend_stop (by omega) hb] at he
      rw [he] at hr
      have hb' : (s.data.toList.getD j 0).toNat = 39 := Decidable.byContradiction fun e => by
        rw [noQuoteB, bne_iff_ne.2 e] at hb
        cases hb
      exact Ev.pos (by omega) hr
theorem rquote_ev (s : ByteArray) (hs : s.size ≤ 1000000000000) (i : Nat) (hi : i < s.size) (hc : smallB (s.data.toList.getD i 0) = false) (hd : isDigit (s.data.toList.getD i 0) = false) (hq' : (s.data.toList.getD i 0).toNat = 39) :
    Ev (fun k => whirligigref02_quote.f k s (i : Int)) (RefRel (tokenAt s.data.toList i) i) := by
  have hl := len_size s
  have hp := le_pend noQuoteB s.data.toList (i + 1)
  have hq := pend_le (p := noQuoteB) (L := s.data.toList) (i := i + 1) (by omega)
  unfold whirligigref02_quote.f
  rw [wrap_at (by omega) (by omega), show ((i : Int) + 1) = ((i + 1 : Nat) : Int) from by omega]
  refine rquote_l s hs i _ _ ?_ (i + 1) (by omega) rfl rfl
  unfold tokenAt
  rw [if_neg (by rw [hc]; decide), if_neg (by rw [hd]; decide), if_pos hq']
  generalize pend noQuoteB s.data.toList (i + 1) = E at *
  have hz := ext_size (s := s) (i := i + 1) (e := E) (by omega)
  refine Ev.succ ?_
  simp only [whirligigref02_quote.j1]
  by_cases h1 : s.data.toList.length ≤ E
  · rw [if_pos h1]; exact Ev.pos (by omega) (Ev.some rfl)
  · rw [if_neg h1]
    refine Ev.neg (by omega) ?_
    rw [wrap_at (x := (E : Int) - (i : Int)) (by omega) (by omega), wrap_at (x := (E : Int) - (i : Int) - 1) (by omega) (by omega), wrap_at (x := (i : Int) + 1) (by omega) (by omega), wrap_at (x := (E : Int) + 1) (by omega) (by omega)]
    by_cases h2 : E - (i + 1) > 48
    · rw [if_pos h2]; exact Ev.pos (by omega) (Ev.some rfl)
    · rw [if_neg h2]
      refine Ev.neg (by omega) (Ev.pos (by omega) (Ev.pos (by omega) (Ev.pos (by omega) ?_)))
      rw [show ((i : Int) + 1) = ((i + 1 : Nat) : Int) from by omega, Int.toNat_natCast, Int.toNat_natCast]
      refine Ev.bind (rplain_ev _ (by omega)) ?_
      rw [ext_data]
      by_cases hb : (cut s.data.toList (i + 1) E).all val_Plain.ok = true
      · simp only [if_pos hb]
        exact Ev.some (by simp only [RefRel, ext_list]; rfl)
      · simp only [if_neg hb]
        exact Ev.some rfl
end Go.Proofs.YtbngfhlciebeeaaDoor.Sp
