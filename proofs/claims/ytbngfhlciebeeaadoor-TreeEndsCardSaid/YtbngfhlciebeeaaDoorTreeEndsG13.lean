/- Printed and hand-written steps towards the row (TreeEnds), those that it reaches. -/
import Derived.Test.YtbngfhlciebeeaaDoorTreeEndsG6
import Derived.Test.YtbngfhlciebeeaaDoorTreeEndsG7
import Derived.Test.YtbngfhlciebeeaaDoorTreeEndsG8
import Derived.Test.YtbngfhlciebeeaaDoorTreeEndsG9
import Derived.Test.YtbngfhlciebeeaaDoorTreeEndsLxf69
section
namespace Go.Proofs.YtbngfhlciebeeaaDoor.Sp
set_option linter.unusedVariables false
set_option linter.unusedSimpArgs false
open Go.RowKit Go.Proofs.YtbngfhlciebeeaaDoor.L Go.Proofs.YtbngfhlciebeeaaDoorW.PrintWords
theorem small_ev (c : UInt8) : tok_small.f (c.toNat : Int) = some (smallB c) := by
  unfold tok_small.f smallB
  by_cases h : 97 ≤ c.toNat
  · rw [if_pos (by omega), decide_eq_true h, Bool.true_and]
    exact congrArg some (decide_eq_decide.2 (by omega))
  · rw [if_neg (by omega), decide_eq_false h]; rfl
theorem digit_ev (c : UInt8) : tok_digit.f (c.toNat : Int) = some (isDigit c) := by
  unfold tok_digit.f isDigit
  by_cases h : 48 ≤ c.toNat
  · rw [if_pos (by omega), decide_eq_true h, Bool.true_and]
    exact congrArg some (decide_eq_decide.2 (by omega))
  · rw [if_neg (by omega), decide_eq_false h]; rfl
theorem beq_cast (a b : Nat) : ((a : Int) == (b : Int)) = (a == b) := by
  by_cases h : a = b
  · subst h; simp
  · rw [beq_eq_false_iff_ne.2 h, beq_eq_false_iff_ne]; omega
theorem word_1_ev (c : UInt8) : tok_reader_word_1.f (c.toNat : Int) = some (innerB c) := by
  unfold tok_reader_word_1.f innerB
  rw [small_ev, digit_ev]
  simp only [Option.bind_some]
  cases smallB c
  · cases isDigit c
    · simp; exact beq_cast _ 95
    · rfl
  · rfl
theorem quote_1_ev (c : UInt8) : tok_reader_quote_1.f (c.toNat : Int) = some (noQuoteB c) := by
  unfold tok_reader_quote_1.f noQuoteB
  exact congrArg some (by simp only [bne]; rw [show (39 : Int) = ((39 : Nat) : Int) from rfl, beq_cast])
theorem Lex_1_ev (c : UInt8) : tok_Lex_1.f (c.toNat : Int) = some (blankB c) := by
  unfold tok_Lex_1.f blankB
  exact congrArg some (beq_cast _ 32)
theorem while_word_l (s : ByteArray) (hs : s.size ≤ 140737488351232) (a d : Nat) : ∀ j, a ≤ j → j ≤ s.size → s.size - j = d →
    Ev (fun k => tok_reader_while_word.l0 k (a : Int) s (j : Int)) (s.extract a (pend innerB s.data.toList j), s, ((pend innerB s.data.toList j : Nat) : Int)) := by
  have hl := len_size s
  induction d with
  | zero =>
    intro j ha hj hd
    obtain rfl : j = s.size := by omega
    rw [pend_end (by omega)]
    refine Ev.succ ?_
    simp only [tok_reader_while_word.l0]
    exact Ev.neg (by omega) (Ev.pos (by omega) (Ev.pos (by omega) (Ev.pos (by omega) (Ev.some (by simp)))))
  | succ d ih =>
    intro j ha hj hd
    refine Ev.succ ?_
    simp only [tok_reader_while_word.l0]
    refine Ev.pos (by omega) (Ev.pos (by omega) ?_)
    rw [bt_nat s j (by omega)]
    refine Ev.bind_some (word_1_ev _) ?_
    cases hb : innerB (s.data.toList.getD j 0) with
    | true =>
      rw [pend_step (by omega) hb]
      refine Ev.pos rfl ?_
      rw [wrap_at (by omega) (by omega)]
      exact ih (j + 1) (by omega) (by omega) (by omega)
    | false =>
      rw [pend_stop (by omega) hb]
      exact Ev.neg (by decide) (Ev.pos (by omega) (Ev.pos (by omega) (Ev.pos (by omega) (Ev.some (by simp)))))
theorem while_word_ev (s : ByteArray) (hs : s.size ≤ 140737488351232) (i : Nat) (hi : i ≤ s.size) :
    Ev (fun k => tok_reader_while_word.f k s (i : Int)) (s.extract i (pend innerB s.data.toList i), s, ((pend innerB s.data.toList i : Nat) : Int)) := by
  unfold tok_reader_while_word.f
  exact while_word_l s hs i _ i (Nat.le_refl _) hi rfl
theorem while_digit_l (s : ByteArray) (hs : s.size ≤ 140737488351232) (a d : Nat) : ∀ j, a ≤ j → j ≤ s.size → s.size - j = d →
    Ev (fun k => tok_reader_while_digit.l0 k (a : Int) s (j : Int)) (s.extract a (pend isDigit s.data.toList j), s, ((pend isDigit s.data.toList j : Nat) : Int)) := by
  have hl := len_size s
  induction d with
  | zero =>
    intro j ha hj hd
    obtain rfl : j = s.size := by omega
    rw [pend_end (by omega)]
    refine Ev.succ ?_
    simp only [tok_reader_while_digit.l0]
    exact Ev.neg (by omega) (Ev.pos (by omega) (Ev.pos (by omega) (Ev.pos (by omega) (Ev.some (by simp)))))
  | succ d ih =>
    intro j ha hj hd
    refine Ev.succ ?_
    simp only [tok_reader_while_digit.l0]
    refine Ev.pos (by omega) (Ev.pos (by omega) ?_)
    rw [bt_nat s j (by omega)]
    refine Ev.bind_some (digit_ev _) ?_
    cases hb : isDigit (s.data.toList.getD j 0) with
    | true =>
      rw [pend_step (by omega) hb]
      refine Ev.pos rfl ?_
      rw [wrap_at (by omega) (by omega)]
      exact ih (j + 1) (by omega) (by omega) (by omega)
    | false =>
      rw [pend_stop (by omega) hb]
      exact Ev.neg (by decide) (Ev.pos (by omega) (Ev.pos (by omega) (Ev.pos (by omega) (Ev.some (by simp)))))
theorem while_digit_ev (s : ByteArray) (hs : s.size ≤ 140737488351232) (i : Nat) (hi : i ≤ s.size) :
    Ev (fun k => tok_reader_while_digit.f k s (i : Int)) (s.extract i (pend isDigit s.data.toList i), s, ((pend isDigit s.data.toList i : Nat) : Int)) := by
  unfold tok_reader_while_digit.f
  exact while_digit_l s hs i _ i (Nat.le_refl _) hi rfl
theorem while_quote_l (s : ByteArray) (hs : s.size ≤ 140737488351232) (a d : Nat) : ∀ j, a ≤ j → j ≤ s.size → s.size - j = d →
    Ev (fun k => tok_reader_while_quote.l0 k (a : Int) s (j : Int)) (s.extract a (pend noQuoteB s.data.toList j), s, ((pend noQuoteB s.data.toList j : Nat) : Int)) := by
  have hl := len_size s
  induction d with
  | zero =>
    intro j ha hj hd
    obtain rfl : j = s.size := by omega
    rw [pend_end (by omega)]
    refine Ev.succ ?_
    simp only [tok_reader_while_quote.l0]
    exact Ev.neg (by omega) (Ev.pos (by omega) (Ev.pos (by omega) (Ev.pos (by omega) (Ev.some (by simp)))))
  | succ d ih =>
    intro j ha hj hd
    refine Ev.succ ?_
    simp only [tok_reader_while_quote.l0]
    refine Ev.pos (by omega) (Ev.pos (by omega) ?_)
    rw [bt_nat s j (by omega)]
    refine Ev.bind_some (quote_1_ev _) ?_
    cases hb : noQuoteB (s.data.toList.getD j 0) with
    | true =>
      rw [pend_step (by omega) hb]
      refine Ev.pos rfl ?_
      rw [wrap_at (by omega) (by omega)]
      exact ih (j + 1) (by omega) (by omega) (by omega)
    | false =>
      rw [pend_stop (by omega) hb]
      exact Ev.neg (by decide) (Ev.pos (by omega) (Ev.pos (by omega) (Ev.pos (by omega) (Ev.some (by simp)))))
theorem while_quote_ev (s : ByteArray) (hs : s.size ≤ 140737488351232) (i : Nat) (hi : i ≤ s.size) :
    Ev (fun k => tok_reader_while_quote.f k s (i : Int)) (s.extract i (pend noQuoteB s.data.toList i), s, ((pend noQuoteB s.data.toList i : Nat) : Int)) := by
  unfold tok_reader_while_quote.f
  exact while_quote_l s hs i _ i (Nat.le_refl _) hi rfl
theorem while_blank_l (s : ByteArray) (hs : s.size ≤ 140737488351232) (a d : Nat) : ∀ j, a ≤ j → j ≤ s.size → s.size - j = d →
    Ev (fun k => tok_reader_while_blank.l0 k (a : Int) s (j : Int)) (s.extract a (pend blankB s.data.toList j), s, ((pend blankB s.data.toList j : Nat) : Int)) := by
  have hl := len_size s
  induction d with
  | zero =>
    intro j ha hj hd
    obtain rfl : j = s.size := by omega
    rw [pend_end (by omega)]
    refine Ev.succ ?_
    simp only [tok_reader_while_blank.l0]
    exact Ev.neg (by omega) (Ev.pos (by omega) (Ev.pos (by omega) (Ev.pos (by omega) (Ev.some (by simp)))))
  | succ d ih =>
    intro j ha hj hd
    refine Ev.succ ?_
    simp only [tok_reader_while_blank.l0]
    refine Ev.pos (by omega) (Ev.pos (by omega) ?_)
    rw [bt_nat s j (by omega)]
    refine Ev.bind_some (Lex_1_ev _) ?_
    cases hb : blankB (s.data.toList.getD j 0) with
    | true =>
      rw [pend_step (by omega) hb]
      refine Ev.pos rfl ?_
      rw [wrap_at (by omega) (by omega)]
      exact ih (j + 1) (by omega) (by omega) (by omega)
    | false =>
      rw [pend_stop (by omega) hb]
      exact Ev.neg (by decide) (Ev.pos (by omega) (Ev.pos (by omega) (Ev.pos (by omega) (Ev.some (by simp)))))
theorem while_blank_ev (s : ByteArray) (hs : s.size ≤ 140737488351232) (i : Nat) (hi : i ≤ s.size) :
    Ev (fun k => tok_reader_while_blank.f k s (i : Int)) (s.extract i (pend blankB s.data.toList i), s, ((pend blankB s.data.toList i : Nat) : Int)) := by
  unfold tok_reader_while_blank.f
  exact while_blank_l s hs i _ i (Nat.le_refl _) hi rfl
theorem word_ev (s : ByteArray) (hs : s.size ≤ 140737488351232) (i : Nat) (hi : i ≤ s.size) :
    Ev (fun k => tok_reader_word.f k s (i : Int)) (s.extract i (pend innerB s.data.toList i), s, ((pend innerB s.data.toList i : Nat) : Int)) := by
  unfold tok_reader_word.f
  exact Ev.bind (while_word_ev s hs i hi) (Ev.some rfl)
end Go.Proofs.YtbngfhlciebeeaaDoor.Sp
end
section
namespace Go.Proofs.YtbngfhlciebeeaaDoor.L
set_option linter.unusedVariables false
set_option linter.unusedSimpArgs false
open Go.RowKit Go.Proofs.YtbngfhlciebeeaaDoorW.PrintWords Go.Proofs.YtbngfhlciebeeaaDoorW.PrintLast Go.Proofs.YtbngfhlciebeeaaDoorW.PrintMore
def tok_Lex.l0 : Nat → ByteArray → Int → List S32 → Option (List S32 × Int × Int)
  | 0, _, _, _ => none
  | k + 1, s, i, out => (tok_reader_while_blank.f k s i).bind fun b =>
    if b.2.2 = (b.2.1.size : Int) then some (out, 0, 0)
    else if (out.length : Int) = 120 then some ([], 13, b.2.2)
    else (tok_reader_token.f k b.2.1 b.2.2).bind fun t =>
      if t.2.2.2.2.1 = 0 then (if out.length < 3518437208883 then tok_Lex.l0 k t.2.2.2.2.2.1 t.2.2.2.2.2.2 (out ++ [⟨t.1, t.2.1, t.2.2.1, b.2.2⟩]) else none)
      else some ([], t.2.2.2.2.1, b.2.2)
def tok_Lex.f (k : Nat) (a0 : ByteArray) : Option (List S32 × Int × Int) := tok_Lex.l0 k a0 0 []
theorem lexInfo32 : (Tryd.prog.info? 32).map (fun i => (i.zero, i.size, i.bytes)) = some (some (.agg #[(.int .i64 0), (.string ⟨#[]⟩), (.int .i64 0), (.int .i64 0)]), 4, 40) := by kernel_rfl
set_option maxHeartbeats 8000000 in
set_option maxRecDepth 100000 in
theorem tok_Lex.calls (k : Nat) (a0 : ByteArray) (r1 : List (S32)) (r2 : Int) (r3 : Int) (w : World) (hL : Laid w) (h : tok_Lex.f k a0 = some (r1, r2, r3)) :
    Calls Tryd.prog 20 #[.string a0] w fun e w' => ∃ v0_ : Value, e = .returned (.tuple #[v0_, .int .i64 r2, .int .i64 r3]) ∧ Kd.R k32 32 w' w.heap.size (fun _ => True) v0_ r1 ∧ Below w.heap.size w w' := by
  have HLD := Aside0.mk hL
  have H' : Aside0 (tok_Lex.l0 k a0 0 [] = some (r1, r2, r3)) := ⟨h⟩
  clear h hL
  go_enter Tryd.func20, Tryd.ntmps20
  go_wp2
  generalize hg : w.heap.size = g
  have hgl : w.heap.size ≤ g := by omega
  have HI := Aside0.mk (IsS122.new w w a0 0 (Below.refl _ _))
  have HB := Aside0.mk (below_alloc (Below.refl w.heap.size w) (.cells #[.string a0, .int .i64 0] 122))
  rw [hg] at HI
  have HO := Aside0.mk (Kd.R_nil k32 32 (w.alloc (.cells #[.string a0, .int .i64 0] 122)) w.heap.size (fun k_ => k_ ≠ g))
  generalize w.alloc (.cells #[.string a0, .int .i64 0] 122) = w1 at HI HB HO ⊢
  have HG := Aside0.mk hgl
  clear hg hgl
  go_loopg [6] k (fun kq v6 w' => ∃ (s : ByteArray) (i : Int) (xs : List S32), Aside0 (tok_Lex.l0 kq s i xs = some (r1, r2, r3)) ∧ Aside0 (kq ≤ k) ∧ Aside0 (IsS122 w w' g s i) ∧ Aside0 (Below w.heap.size w w') ∧ Aside0 (Kd.R k32 32 w' w.heap.size (fun k_ => k_ ≠ g) v6 xs))
  case atStart => exact ⟨a0, 0, [], H', ⟨Nat.le_refl _⟩, HI, HB, HO⟩
  case round =>
    clear H' HI HB HO
    obtain ⟨s, i, xs, HA, HK1, HI, HB, HO⟩ := hrel
    cases gk with
    | zero => exact absurd HA.out (by simp [tok_Lex.l0])
    | succ k1 =>
      have H := HA.out
      clear HA
      simp only [tok_Lex.l0] at H
      obtain ⟨⟨b1, s1, i1⟩, A1, H⟩ := Option.bind_eq_some_iff.1 H
      have HA1 := Aside0.mk A1
      clear A1
      simp only at H
      go_wp2_with fail
      refine (tok_reader_while_blank.calls k1 g s i b1 s1 i1 w _ HI.out HB.out HA1.out).mono ?_
      rintro e w2 ⟨rfl, hI2, hB2, hK2⟩
      have HO2 := Aside0.mk (Kd.R_keep HO.out hK2 (fun _ h => h))
      have HI2 := Aside0.mk hI2
      have HB2 := Aside0.mk hB2
      obtain ⟨hgb, hgs⟩ := hI2
      have hc0 := cellS122_0 hgb
      have hc1 := cellS122_1 hgb
      have hf0 := blk_frozen hgb 0
      have hf1 := blk_frozen hgb 1
      clear hgb hgs HO HI HB hK2 hB2
      by_cases c1 : i1 = (s1.size : Int)
      · rw [if_pos c1] at H
        have c1b : (i1 == (s1.size : Int)) = true := beq_iff_eq.2 c1
        clear c1
        simp only [Option.some.injEq, Prod.mk.injEq] at H
        obtain ⟨rfl, rfl, rfl⟩ := H
        go_wp2
        go_quiet (fail)
        go_wp2
        go_ret3
        exact ⟨_, rfl, Kd.R_mono (by (with_reducible repeat (first | apply Kd.R_alloc | apply Kd.R_drewN | apply Kd.R_drew)); exact HO2.out) (fun _ _ => trivial), by repeat (first | (with_reducible first | exact HB2.out | apply below_alloc | apply pw_below_drewN | apply below_drew1) | exact HB2.out)⟩
      · rw [if_neg c1] at H
        have c1b : (i1 == (s1.size : Int)) = false := beq_eq_false_iff_ne.2 c1
        clear c1
        obtain ⟨A0, cp, rfl⟩ := Kd.R_slice HO2.out
        by_cases c2 : (xs.length : Int) = 120
        · rw [if_pos c2] at H
          have c2b : ((xs.length : Int) == 120) = true := beq_iff_eq.2 c2
          clear c2
          simp only [Option.some.injEq, Prod.mk.injEq] at H
          obtain ⟨rfl, rfl, rfl⟩ := H
          go_wp2
          go_quiet (fail)
          go_wp2
          go_ret3
          exact ⟨_, rfl, Kd.R_nil _ _ _ _ _, by repeat (first | (with_reducible first | exact HB2.out | apply below_alloc | apply pw_below_drewN | apply below_drew1) | exact HB2.out)⟩
        · rw [if_neg c2] at H
          have c2b : ((xs.length : Int) == 120) = false := beq_eq_false_iff_ne.2 c2
          clear c2
          obtain ⟨⟨t1, t2, t3, t4, te, s2, i2⟩, A2, H⟩ := Option.bind_eq_some_iff.1 H
          have HA2 := Aside0.mk A2
          clear A2
          simp only at H
          go_wp2
          go_quiet (fail)
          go_wp2_with fail
          refine (tok_reader_token.calls k1 g s1 i1 t1 t2 t3 t4 te s2 i2 w _ (HI2.out.drewN _) (pw_below_drewN HB2.out _) HLD.out HA2.out).mono ?_
          rintro e w3 ⟨rfl, hI3, hB3, hK3⟩
          have HO3 := Aside0.mk (Kd.R_keep (by (with_reducible repeat (first | apply Kd.R_alloc | apply Kd.R_drewN | apply Kd.R_drew)); exact HO2.out) hK3 (fun _ h => h))
          have HI3 := Aside0.mk hI3
          have HB3 := Aside0.mk hB3
          clear hI3 hB3 hK3 HO2 HI2 HB2 hc0 hc1 hf0 hf1
          by_cases c3 : te = 0
          · rw [if_pos c3] at H
            have c3b : (te != 0) = false := bne_eq_false_iff_eq.2 c3
            clear c3
            by_cases c4 : xs.length < 3518437208883
            · rw [if_pos c4] at H
              have HA3 := Aside0.mk H
              clear H
              have hgl := IsS122.lt HI3.out
              have hsz := HB3.out.size
              go_wp2_with (first | ((with_reducible refine gate_builtin (b := .append) (xs := #[.tmp 45, .tmp 47]) rfl ?_); at_builtin; refine Kd.R_append k32 (w0 := w) w.heap.size rfl (.tmp 45) (.tmp 47) 23 32 (.agg #[(.int .i64 0), (.string ⟨#[]⟩), (.int .i64 0), (.int .i64 0)]) 40 rfl Tryd.underlying23 lexInfo32 rfl (by decide) (by omega) (.slice A0 xs.length cp) xs (⟨t1, t2, t3, i1⟩ : S32) [.int .i64 t1, .string t2, .int .i64 t3, .int .i64 i1] (fun k_ => k_ ≠ g) (fun _ => False) rfl (by first | (go_simp; done) | (go_simp; rfl)) ?aP (fun _ hk => hk.elim) ?aF ?aO ?aB ?aS ?aL ?_; (case aP => exact k32_mkM _ _ _ (⟨t1, t2, t3, i1⟩ : S32)); (case aB => exact (by repeat (first | (with_reducible first | exact HB3.out | apply below_alloc | apply pw_below_drewN | apply below_drew1) | exact HB3.out))); (case aF => exact (fun k_ hk => by simp at hk; omega)); (case aO => exact (by (with_reducible repeat (first | apply Kd.R_alloc | apply Kd.R_drewN | apply Kd.R_drew)); exact HO3.out)); (case aS => simp; omega); (case aL => omega); intro v4 w4 ho hb hgr hat; have HO4 := Aside0.mk ho; have HB4 := Aside0.mk hb; have HI4 := Aside0.mk (IsS122.grown (by repeat (first | (with_reducible first | exact HI3.out | apply IsS122.alloc | apply IsS122.drewN | apply IsS122.drew) | exact HI3.out)) hgr (fun e => HO3.out.1 g e.symm rfl)); clear ho hb hgr hat HO3 HB3 HI3))
              go_roundg k1
              case rel => exact ⟨s2, i2, _, HA3, ⟨by have := HK1.out; omega⟩, HI4, HB4, HO4⟩
              case measure => omega
            · rw [if_neg c4] at H; cases H
          · rw [if_neg c3] at H
            have c3b : (te != 0) = true := bne_iff_ne.2 c3
            clear c3
            simp only [Option.some.injEq, Prod.mk.injEq] at H
            obtain ⟨rfl, rfl, rfl⟩ := H
            go_wp2
            go_ret3
            exact ⟨_, rfl, Kd.R_nil _ _ _ _ _, by repeat (first | (with_reducible first | exact HB3.out | apply below_alloc | apply pw_below_drewN | apply below_drew1 | refine below_set ?_ HB3.out.size) | exact HB3.out)⟩
end Go.Proofs.YtbngfhlciebeeaaDoor.L
end
