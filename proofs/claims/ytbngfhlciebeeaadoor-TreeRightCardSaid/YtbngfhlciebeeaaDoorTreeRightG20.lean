/- Printed and hand-written steps towards the row (TreeRight), those that it reaches. -/
import Derived.Test.YtbngfhlciebeeaaDoorTreeRightG19
import Derived.Test.YtbngfhlciebeeaaDoorTreeRightLx0
import Derived.Test.YtbngfhlciebeeaaDoorTreeRightG7
import Derived.Test.YtbngfhlciebeeaaDoorTreeRightLxf19
import Derived.Test.YtbngfhlciebeeaaDoorTreeRightLxf112
import Derived.Test.YtbngfhlciebeeaaDoorTreeRightG13
section
namespace Go.Proofs.YtbngfhlciebeeaaDoor.Sp
set_option linter.unusedVariables false
set_option linter.unusedSimpArgs false
open Go.RowKit Go.Proofs.YtbngfhlciebeeaaDoor.L Go.Proofs.YtbngfhlciebeeaaDoorW.PrintWords
def ones : List UInt8 := [40, 41, 59, 58, 43, 45, 42, 47, 37, 60, 62, 61]
def signOne (c : UInt8) (l : List UInt8) : Option (List UInt8) :=
  if l.head? = some 61 ∧ (c = 60 ∨ c = 62 ∨ c = 33) then some [c, 61] else if c ∈ ones then some [c] else none
theorem signFind_one (c : UInt8) (l : List UInt8) : signFind (c :: l) = signOne c l := by
  unfold signFind signOne
  by_cases h1 : c ∈ ones ∨ c = 33
  · have h2 : c = 40 ∨ c = 41 ∨ c = 59 ∨ c = 58 ∨ c = 43 ∨ c = 45 ∨ c = 42 ∨ c = 47 ∨ c = 37 ∨ c = 60 ∨ c = 62 ∨ c = 61 ∨ c = 33 := by
      simpa [ones, or_assoc] using h1
    clear h1
    cases l with
    | nil =>
      rcases h2 with h | h | h | h | h | h | h | h | h | h | h | h | h <;> subst h <;> decide
    | cons d l =>
      by_cases hd : d = 61
      · subst hd
        rcases h2 with h | h | h | h | h | h | h | h | h | h | h | h | h <;> subst h <;> simp [signList, List.find?, List.isPrefixOf, ones]
      · have hd' : ((61 : UInt8) == d) = false := beq_eq_false_iff_ne.2 (fun e => hd e.symm)
        rcases h2 with h | h | h | h | h | h | h | h | h | h | h | h | h <;> subst h <;> simp [signList, List.find?, List.isPrefixOf, ones, hd, hd']
  · have hn : ∀ g ∈ signList, g.isPrefixOf (c :: l) = false := by
      intro g hg
      have hne : ∀ a : UInt8, a ∈ ones ∨ a = 33 → (a == c) = false := fun a ha => by
        rw [beq_eq_false_iff_ne]; rintro rfl; exact h1 ha
      have hg' : g = [60, 61] ∨ g = [62, 61] ∨ g = [33, 61] ∨ g = [40] ∨ g = [41] ∨ g = [59] ∨ g = [58] ∨ g = [43] ∨ g = [45] ∨ g = [42] ∨ g = [47] ∨ g = [37] ∨ g = [60] ∨ g = [62] ∨ g = [61] := by simpa [signList] using hg
      rcases hg' with h | h | h | h | h | h | h | h | h | h | h | h | h | h | h <;> (rw [h, List.isPrefixOf, hne _ (by decide)]; rfl)
    rw [List.find?_eq_none.2 (fun g hg => by rw [hn g hg]; decide), if_neg (fun h => h1 (by rcases h.2 with h | h | h <;> subst h <;> decide)), if_neg (fun h => h1 (.inl h))]
theorem ones_size : (⟨#[40, 41, 59, 58, 43, 45, 42, 47, 37, 60, 62, 61]⟩ : ByteArray).size = 12 := rfl
theorem rsign_l (s : ByteArray) (hs : s.size ≤ 1000000000000) (i : Nat) (hi : i < s.size) (c : UInt8) (d : Nat) : ∀ j, j ≤ 12 → 12 - j = d →
    Ev (fun k => whirligigref02_sign.l0 k s (i : Int) (c.toNat : Int) (⟨#[40, 41, 59, 58, 43, 45, 42, 47, 37, 60, 62, 61]⟩ : ByteArray) (j : Int))
      (if c ∈ ones.drop j then (5, s.extract i (i + 1), 0, (i : Int), (i : Int) + 1, 0) else (0, ⟨#[]⟩, 0, 0, (i : Int), 11)) := by
  have hl := len_size s
  have hos := ones_size
  have hol : ones.length = 12 := rfl
  induction d with
  | zero =>
    intro j hj hd
    rw [List.drop_eq_nil_of_le (by omega), if_neg (by simp)]
    refine Ev.succ ?_
    simp only [whirligigref02_sign.l0]
    exact Ev.neg (by omega) (Ev.some rfl)
  | succ d ih =>
    intro j hj hd
    refine Ev.succ ?_
    simp only [whirligigref02_sign.l0]
    rw [bt_nat _ j (by omega)]
    have ho : (⟨#[40, 41, 59, 58, 43, 45, 42, 47, 37, 60, 62, 61]⟩ : ByteArray).data.toList = ones := rfl
    rw [ho]
    refine Ev.pos (by omega) (Ev.pos (by omega) ?_)
    rw [drop_at (L := ones) (by omega)]
    by_cases h : ones.getD j 0 = c
    · have hm : c ∈ ones.getD j 0 :: ones.drop (j + 1) := by rw [h]; exact List.mem_cons_self
      rw [if_pos hm, wrap_at (by omega) (by omega)]
      exact Ev.pos (by rw [h]) (Ev.pos (by omega) (Ev.pos (by omega) (Ev.pos (by omega) (Ev.some (by rw [show ((i : Int) + 1) = ((i + 1 : Nat) : Int) from by omega, Int.toNat_natCast, Int.toNat_natCast])))))
    · refine Ev.neg (fun e => h (UInt8.toNat_inj.1 (by omega))) ?_
      rw [wrap_at (by omega) (by omega)]
      have := ih (j + 1) (by omega) (by omega)
      by_cases hm : c ∈ ones.drop (j + 1)
      · rw [if_pos hm] at this
        rw [if_pos (List.mem_cons_of_mem _ hm)]
        exact this
      · rw [if_neg hm] at this
        rw [if_neg (fun e => (List.mem_cons.1 e).elim (fun e => h e.symm) hm)]
        exact this
theorem rsign_ev (s : ByteArray) (hs : s.size ≤ 1000000000000) (i : Nat) (hi : i < s.size) (hc : smallB (s.data.toList.getD i 0) = false) (hd : isDigit (s.data.toList.getD i 0) = false) (hq' : ¬ (s.data.toList.getD i 0).toNat = 39) :
    Ev (fun k => whirligigref02_sign.f k s (i : Int)) (RefRel (tokenAt s.data.toList i) i) := by
  have hl := len_size s
  unfold tokenAt
  rw [if_neg (by rw [hc]; decide), if_neg (by rw [hd]; decide), if_neg hq', drop_at (by omega), signFind_one]
  unfold whirligigref02_sign.f
  have hcut1 : s.extract i (i + 1) = ⟨[s.data.toList.getD i 0].toArray⟩ := by rw [ext_list, cut_one (by omega)]
  have hb := bt_nat s i hi
  rw [hb]
  have hone : ∀ b : Bool, b = false → Ev (fun k => whirligigref02_sign.j0 k s (i : Int) ((s.data.toList.getD i 0).toNat : Int) b) (RefRel (match (if s.data.toList.getD i 0 ∈ ones then some [s.data.toList.getD i 0] else none : Option (List UInt8)) with | some g => .ok (5, g, 0, i + g.length) | none => .error 11) i) := fun b hbf => by
    subst hbf
    refine Ev.succ ?_
    simp only [whirligigref02_sign.j0]
    refine Ev.neg (by decide) ?_
    have := rsign_l s hs i hi (s.data.toList.getD i 0) 12 0 (by omega) rfl
    rw [List.drop_zero] at this
    by_cases hm : s.data.toList.getD i 0 ∈ ones
    · rw [if_pos hm] at this
      rw [if_pos hm]
      simp only [RefRel]
      rw [← hcut1]
      exact this
    · rw [if_neg hm] at this
      rw [if_neg hm]
      exact this
  refine Ev.pos (by omega) (Ev.pos (by omega) ?_)
  rw [wrap_at (by omega) (by omega)]
  unfold signOne
  by_cases h1 : i + 1 < s.size
  · refine Ev.pos (by omega) (Ev.pos (by omega) ?_)
    rw [show ((i : Int) + 1) = ((i + 1 : Nat) : Int) from by omega, bt_nat s (i + 1) h1, drop_at (L := s.data.toList) (i := i + 1) (by omega)]
    by_cases h61 : s.data.toList.getD (i + 1) 0 = 61
    · refine Ev.pos (by rw [h61]; rfl) ?_
      have htwo : (s.data.toList.getD i 0 = 60 ∨ s.data.toList.getD i 0 = 62 ∨ s.data.toList.getD i 0 = 33) → Ev (fun k => whirligigref02_sign.j0 k s (i : Int) ((s.data.toList.getD i 0).toNat : Int) true) (RefRel (.ok (5, [s.data.toList.getD i 0, 61], 0, i + 2)) i) := fun _ => by
        refine Ev.succ ?_
        simp only [whirligigref02_sign.j0]
        rw [wrap_at (by omega) (by omega)]
        refine Ev.pos trivial (Ev.pos (by omega) (Ev.pos (by omega) (Ev.pos (by omega) (Ev.some ?_))))
        have hcut2 : s.extract i (i + 2) = ⟨[s.data.toList.getD i 0, 61].toArray⟩ := by
          rw [ext_list, ← cut_append (j := i + 1) (by omega) (by omega), cut_one (by omega), cut_one (by omega), h61]; rfl
        simp only [RefRel]
        rw [← hcut2, show ((i : Int) + 2) = ((i + 2 : Nat) : Int) from by omega, Int.toNat_natCast, Int.toNat_natCast]
      by_cases h60 : s.data.toList.getD i 0 = 60
      · rw [if_pos ⟨by rw [h61]; rfl, .inl h60⟩]
        exact Ev.pos (by rw [h60]; rfl) (htwo (.inl h60))
      · refine Ev.neg (fun e => h60 (UInt8.toNat_inj.1 (by simpa using (by omega : (s.data.toList.getD i 0).toNat = 60)))) ?_
        by_cases h62 : s.data.toList.getD i 0 = 62
        · rw [if_pos ⟨by rw [h61]; rfl, .inr (.inl h62)⟩]
          exact Ev.pos (by rw [h62]; rfl) (htwo (.inr (.inl h62)))
        · refine Ev.neg (fun e => h62 (UInt8.toNat_inj.1 (by simpa using (by omega : (s.data.toList.getD i 0).toNat = 62)))) ?_
          by_cases h33 : s.data.toList.getD i 0 = 33
          · rw [if_pos ⟨by rw [h61]; rfl, .inr (.inr h33)⟩, show (((s.data.toList.getD i 0).toNat : Int) == 33) = true from by rw [h33]; rfl]
            exact htwo (.inr (.inr h33))
          · rw [if_neg (fun e => e.2.elim h60 (fun e => e.elim h62 h33))]
            exact hone _ (by rw [beq_eq_false_iff_ne]; exact fun e => h33 (UInt8.toNat_inj.1 (by simpa using (by omega : (s.data.toList.getD i 0).toNat = 33))))
    · refine Ev.neg (fun e => h61 (UInt8.toNat_inj.1 (by simpa using (by omega : (s.data.toList.getD (i + 1) 0).toNat = 61)))) ?_
      rw [if_neg (fun e => h61 (by simpa using e.1))]
      exact hone _ rfl
  · refine Ev.neg (by omega) ?_
    rw [List.drop_eq_nil_of_le (by omega), if_neg (fun e => by simp at e)]
    exact hone _ rfl
theorem rtoken_ev (s : ByteArray) (hs : s.size ≤ 1000000000000) (i : Nat) (hi : i < s.size) :
    Ev (fun k => whirligigref02_Token.f k s (i : Int)) (RefRel (tokenAt s.data.toList i) i) := by
  unfold whirligigref02_Token.f
  rw [bt_nat s i hi]
  refine Ev.pos (by omega) (Ev.pos (by omega) (Ev.bind_some (letter_ev _) ?_))
  cases hc : smallB (s.data.toList.getD i 0) with
  | true => exact Ev.pos rfl (Ev.bind (rpath_ev s hs i hi hc) (Ev.some rfl))
  | false =>
    refine Ev.neg (by decide) ?_
    cases hd : isDigit (s.data.toList.getD i 0) with
    | true =>
      have hb := digit_bounds hd
      refine Ev.pos (by omega) ?_
      rw [decide_eq_true (by omega)]
      refine Ev.succ ?_
      simp only [whirligigref02_Token.j0]
      exact Ev.pos trivial (Ev.bind (rnumber_ev s hs i hi hc hd) (Ev.some rfl))
    | false =>
      have hrest : Ev (fun k => whirligigref02_Token.j0 k s (i : Int) ((s.data.toList.getD i 0).toNat : Int) false) (RefRel (tokenAt s.data.toList i) i) := by
        refine Ev.succ ?_
        simp only [whirligigref02_Token.j0]
        refine Ev.neg (by decide) ?_
        by_cases hq : (s.data.toList.getD i 0).toNat = 39
        · exact Ev.pos (by omega) (Ev.bind (rquote_ev s hs i hi hc hd hq) (Ev.some rfl))
        · exact Ev.neg (by omega) (Ev.bind (rsign_ev s hs i hi hc hd hq) (Ev.some rfl))
      by_cases h48 : 48 ≤ (s.data.toList.getD i 0).toNat
      · refine Ev.pos (by omega) ?_
        unfold isDigit at hd
        rw [decide_eq_true h48, Bool.true_and, decide_eq_false_iff_not] at hd
        rw [decide_eq_false (by omega)]
        exact hrest
      · exact Ev.neg (by omega) hrest
def Tk.s31 (t : Tk) : S31 := ⟨t.kind, ⟨t.text.toArray⟩, t.n, (t.pos : Int)⟩
theorem rlex_blank (s : ByteArray) (hs : s.size ≤ 1000000000000) (out : List S31) (r : List S31 × Int × Int) (d : Nat) : ∀ i, i ≤ s.size → s.size - i = d →
    Ev (fun k => whirligigref02_Lex.l0 k s out ((pend blankB s.data.toList i : Nat) : Int)) r → Ev (fun k => whirligigref02_Lex.l0 k s out (i : Int)) r := by
  have hl := len_size s
  induction d with
  | zero =>
    intro i hi hd h
    rw [pend_end (by omega)] at h
    exact h
  | succ d ih =>
    intro i hi hd h
    cases hb : blankB (s.data.toList.getD i 0) with
    | true =>
      rw [pend_step (by omega) hb] at h
      refine Ev.succ ?_
      simp only [whirligigref02_Lex.l0]
      rw [bt_nat s i (by omega), wrap_at (by omega) (by omega)]
      have h32 : (s.data.toList.getD i 0).toNat = 32 := by unfold blankB at hb; exact beq_iff_eq.1 hb
      exact Ev.pos (by omega) (Ev.pos (by omega) (Ev.pos (by omega) (ih (i + 1) (by omega) (by omega) h)))
    | false =>
      rw [pend_stop (by omega) hb] at h
      exact h
theorem pend_not {p : UInt8 → Bool} {L : List UInt8} {i : Nat} (h : pend p L i < L.length) : p (L.getD (pend p L i) 0) = false := by
  cases hb : p (L.getD (pend p L i) 0) with
  | false => rfl
  | true =>
    exfalso
    have h1 : cut L i (pend p L i) = (L.drop i).takeWhile p := cut_pend p L i
    have h2 := List.takeWhile_append_dropWhile (p := p) (l := L.drop i)
    have h3 : (L.drop i).dropWhile p = L.drop (pend p L i) := by
      have e : (L.drop i).drop ((L.drop i).takeWhile p).length = (L.drop i).dropWhile p := by
        conv => lhs; arg 2; rw [← h2]
        rw [List.drop_left]
      rw [← e, List.drop_drop]
      unfold pend
      congr 1
    rw [drop_at h] at h3
    have := List.head?_dropWhile_not p (L.drop i)
    rw [h3] at this
    simp only [List.head?_cons] at this
    rw [hb] at this
    cases this
theorem rlex_l (s : ByteArray) (hs : s.size ≤ 1000000000000) : ∀ (f i : Nat) (out : List Tk), i ≤ s.size → s.size - i < f → out.length ≤ 120 →
    Ev (fun k => whirligigref02_Lex.l0 k s (out.map Tk.s31) (i : Int)) (((lexGo s.data.toList f i out).1).map Tk.s31, (lexGo s.data.toList f i out).2.1, ((lexGo s.data.toList f i out).2.2 : Int))
  | 0, i, out, hi, hf, ho => by omega
  | f + 1, i, out, hi, hf, ho => by
    have hl := len_size s
    have hp := le_pend blankB s.data.toList i
    have hq := pend_le (p := blankB) (L := s.data.toList) (i := i) (by omega)
    have hn := pend_not (p := blankB) (L := s.data.toList) (i := i)
    refine rlex_blank s hs _ _ _ i hi rfl ?_
    simp only [lexGo]
    generalize pend blankB s.data.toList i = j at *
    refine Ev.succ ?_
    simp only [whirligigref02_Lex.l0]
    by_cases h1 : s.data.toList.length ≤ j
    · rw [if_pos h1]
      exact Ev.neg (by omega) (Ev.some (by simp))
    · rw [if_neg h1]
      have hb := hn (by omega)
      rw [bt_nat s j (by omega)]
      have h32 : (s.data.toList.getD j 0).toNat ≠ 32 := by
        intro e
        unfold blankB at hb
        rw [e] at hb
        cases hb
      refine Ev.pos (by omega) (Ev.pos (by omega) (Ev.neg (by omega) ?_))
      by_cases h2 : out.length = 120
      · rw [if_pos h2]
        exact Ev.pos (by rw [List.length_map]; omega) (Ev.some (by simp))
      · rw [if_neg h2]
        refine Ev.neg (by rw [List.length_map]; omega) (Ev.bind (rtoken_ev s hs j (by omega)) ?_)
        cases ht : tokenAt s.data.toList j with
        | error e =>
          have hne : e ≠ 0 := by
            obtain ⟨r, _, h⟩ := token_ev s hs j (by omega)
            rw [ht] at h
            exact h.2
          exact Ev.neg hne (Ev.some (by simp [RefRel]))
        | ok x =>
          obtain ⟨k, t, n, e⟩ := x
          have hle := tokenAt_le (by omega) ht
          refine Ev.pos rfl (Ev.pos (by rw [List.length_map]; omega) ?_)
          have := rlex_l s hs f e (out ++ [⟨k, t, n, j⟩]) (by omega) (by omega) (by rw [List.length_append]; simp; omega)
          rw [List.map_append] at this
          exact this
theorem rLex_ev (s : ByteArray) (hs : s.size ≤ 1000000000000) : Ev (fun k => whirligigref02_Lex.f k s) (((lex s.data.toList).1).map Tk.s31, (lex s.data.toList).2.1, ((lex s.data.toList).2.2 : Int)) := by
  have hl := len_size s
  exact rlex_l s hs (s.data.toList.length + 1) 0 [] (by omega) (by omega) (by simp)
end Go.Proofs.YtbngfhlciebeeaaDoor.Sp
end
section
namespace Go.Proofs.YtbngfhlciebeeaaDoor.L
open Go.RowKit Go.Proofs.YtbngfhlciebeeaaDoorW.PrintWords Go.Proofs.YtbngfhlciebeeaaDoorW.PrintLast Go.Proofs.YtbngfhlciebeeaaDoorW.PrintMore
attribute [local go_sem] max2_int min2_int max_two min_two max_three min_three max_four min_four   -- for this text's walks alone
set_option linter.unusedVariables false
set_option linter.unusedSimpArgs false
theorem eqA31 (d : Nat) (w : World) (x0 y0 : Int) (x1 y1 : ByteArray) (x2 y2 : Int) (x3 y3 : Int) :
    (Op.equalIn (d + 2) 31 (.agg #[.int .i64 x0, .string x1, .int .i64 x2, .int .i64 x3]) (.agg #[.int .i64 y0, .string y1, .int .i64 y2, .int .i64 y3])).run Tryd.prog w = .ok (x0 == y0 && (x1.toList == y1.toList && (x2 == y2 && (x3 == y3)))) w := by
  refine eqA_of Tryd.underlying31 (by kernel_rfl) ?_
  refine eqf_cons (by rfl) (by go_simp; rfl) (by go_simp; rfl) (by go_simp) ?_
  refine eqf_cons (by rfl) (by go_simp; rfl) (by go_simp; rfl) (by go_simp) ?_
  refine eqf_cons (by rfl) (by go_simp; rfl) (by go_simp; rfl) (by go_simp) ?_
  exact eqf_last (by rfl) (by go_simp; rfl) (by go_simp; rfl) (by go_simp)
end Go.Proofs.YtbngfhlciebeeaaDoor.L
end
section
namespace Go.Proofs.YtbngfhlciebeeaaDoor.L
open Go.RowKit Go.Proofs.YtbngfhlciebeeaaDoorW.PrintWords Go.Proofs.YtbngfhlciebeeaaDoorW.PrintLast Go.Proofs.YtbngfhlciebeeaaDoorW.PrintMore
attribute [local go_sem] max2_int min2_int max_two min_two max_three min_three max_four min_four   -- for this text's walks alone
set_option linter.unusedVariables false
set_option linter.unusedSimpArgs false
attribute [local go_sem high] eqA31
mutual
def whirligiglaw02_TokLexes.j0 : Nat → List (S32) → List (S31) → Bool → Option (Bool)
 | 0, _, _, _ => none
 | k + 1, x3, x6, x41 => if x41 = true then (some false) else (whirligiglaw02_TokLexes.l0 k x3 x6 (x3.length : Int) 0)
def whirligiglaw02_TokLexes.l0 : Nat → List (S32) → List (S31) → Int → Int → Option (Bool)
 | 0, _, _, _, _ => none
 | k + 1, x3, x6, x43, x44 => if x44 < x43 then (if 0 ≤ x44 then (if x44 < (x3.length : Int) then (if x44 < (x6.length : Int) then (if (!(((rd_T32 x3 x44).f0) == ((rd_T31 x6 x44).f0)) || (!((((rd_T32 x3 x44).f1).toList) == (((rd_T31 x6 x44).f1).toList)) || (!(((rd_T32 x3 x44).f2) == ((rd_T31 x6 x44).f2)) || (!(((rd_T32 x3 x44).f3) == ((rd_T31 x6 x44).f3)))))) = true then (some false) else (whirligiglaw02_TokLexes.l0 k x3 x6 x43 (wrap64 (x44 + 1)))) else (none)) else (none)) else (none)) else (some true)
end
def whirligiglaw02_TokLexes.f (k : Nat) (a0 : ByteArray) : Option (Bool) := (whirligiglaw02_anchor.f k).bind fun t222 => (if t222 = true then (if (a0.size : Int) > 1000 then (some true) else ((tok_Lex.f k a0).bind fun bt223 => ((whirligigref02_Lex.f k a0).bind fun bt228 => (if bt223.2.1 = bt228.2.1 then (if bt223.2.2 = bt228.2.2 then (whirligiglaw02_TokLexes.j0 k bt223.1 bt228.1 ((bt223.1.length : Int) != (bt228.1.length : Int))) else (whirligiglaw02_TokLexes.j0 k bt223.1 bt228.1 true)) else (whirligiglaw02_TokLexes.j0 k bt223.1 bt228.1 true))))) else (some false))
theorem whirligiglaw02_TokLexes.mono_l : ∀ k, (∀ y0 y1 y2, LeO (whirligiglaw02_TokLexes.j0 k y0 y1 y2) (whirligiglaw02_TokLexes.j0 (k + 1) y0 y1 y2)) ∧ (∀ y0 y1 y2 y3, LeO (whirligiglaw02_TokLexes.l0 k y0 y1 y2 y3) (whirligiglaw02_TokLexes.l0 (k + 1) y0 y1 y2 y3))
 | 0 => ⟨fun _ _ _ r h => by simp [whirligiglaw02_TokLexes.j0] at h, fun _ _ _ _ r h => by simp [whirligiglaw02_TokLexes.l0] at h⟩
 | k + 1 => by
  obtain ⟨ih0, ih1⟩ := whirligiglaw02_TokLexes.mono_l k
  refine ⟨?_, ?_⟩
  ·intro y0 y1 y2
   unfold whirligiglaw02_TokLexes.j0
   repeat' first
   | (with_reducible exact ih0 _ _ _)
   | (with_reducible exact ih1 _ _ _ _)
   | (with_reducible exact tok_Lex.mono _ _)
   | (with_reducible exact whirligiglaw02_anchor.mono _)
   | (with_reducible exact whirligigref02_Lex.mono _ _)
   | (with_reducible exact LeO.refl _)
   | (with_reducible exact LeO.none _)
   | (with_reducible refine LeO.ite ?_ ?_)
   | (with_reducible refine LeO.bind ?_ (fun _ => ?_))
   | exact ih0 _ _ _
   | exact ih1 _ _ _ _
   | exact tok_Lex.mono _ _
   | exact whirligiglaw02_anchor.mono _
   | exact whirligigref02_Lex.mono _ _
   | exact LeO.none _
   | refine LeO.ite ?_ ?_
   | refine LeO.bind ?_ (fun _ => ?_)
  ·intro y0 y1 y2 y3
   unfold whirligiglaw02_TokLexes.l0
   repeat' first
   | (with_reducible exact ih0 _ _ _)
   | (with_reducible exact ih1 _ _ _ _)
   | (with_reducible exact tok_Lex.mono _ _)
   | (with_reducible exact whirligiglaw02_anchor.mono _)
   | (with_reducible exact whirligigref02_Lex.mono _ _)
   | (with_reducible exact LeO.refl _)
   | (with_reducible exact LeO.none _)
   | (with_reducible refine LeO.ite ?_ ?_)
   | (with_reducible refine LeO.bind ?_ (fun _ => ?_))
   | exact ih0 _ _ _
   | exact ih1 _ _ _ _
   | exact tok_Lex.mono _ _
   | exact whirligiglaw02_anchor.mono _
   | exact whirligigref02_Lex.mono _ _
   | exact LeO.none _
   | refine LeO.ite ?_ ?_
   | refine LeO.bind ?_ (fun _ => ?_)
theorem whirligiglaw02_TokLexes.mono : ∀ a0 k, LeO (whirligiglaw02_TokLexes.f k a0) (whirligiglaw02_TokLexes.f (k + 1) a0) := by
 intro a0 k
 obtain ⟨ih0, ih1⟩ := whirligiglaw02_TokLexes.mono_l k
 unfold whirligiglaw02_TokLexes.f
 repeat' first
   | (with_reducible exact ih0 _ _ _)
   | (with_reducible exact ih1 _ _ _ _)
   | (with_reducible exact tok_Lex.mono _ _)
   | (with_reducible exact whirligiglaw02_anchor.mono _)
   | (with_reducible exact whirligigref02_Lex.mono _ _)
   | (with_reducible exact LeO.refl _)
   | (with_reducible exact LeO.none _)
   | (with_reducible refine LeO.ite ?_ ?_)
   | (with_reducible refine LeO.bind ?_ (fun _ => ?_))
   | exact ih0 _ _ _
   | exact ih1 _ _ _ _
   | exact tok_Lex.mono _ _
   | exact whirligiglaw02_anchor.mono _
   | exact whirligigref02_Lex.mono _ _
   | exact LeO.none _
   | refine LeO.ite ?_ ?_
   | refine LeO.bind ?_ (fun _ => ?_)
def whirligiglaw02_blank.l0 : Nat → ByteArray → Int → Int → Option (Bool)
 | 0, _, _, _ => none
 | k + 1, x0, x5, x6 => if x6 < x5 then (if 0 ≤ x6 then (if x6 < (x0.size : Int) then (if (bt x0 x6) = 32 then (whirligiglaw02_blank.l0 k x0 x5 (wrap64 (x6 + 1))) else (some false)) else (none)) else (none)) else (some true)
def whirligiglaw02_blank.f (k : Nat) (a0 : ByteArray) : Option (Bool) := whirligiglaw02_blank.l0 k a0 (a0.size : Int) 0
theorem whirligiglaw02_blank.mono_l : ∀ k, (∀ y0 y1 y2, LeO (whirligiglaw02_blank.l0 k y0 y1 y2) (whirligiglaw02_blank.l0 (k + 1) y0 y1 y2))
 | 0 => fun _ _ _ r h => by simp [whirligiglaw02_blank.l0] at h
 | k + 1 => by
  have ih0 := whirligiglaw02_blank.mono_l k
  ·intro y0 y1 y2
   unfold whirligiglaw02_blank.l0
   repeat' first
   | (with_reducible exact ih0 _ _ _)
   | (with_reducible exact LeO.refl _)
   | (with_reducible exact LeO.none _)
   | (with_reducible refine LeO.ite ?_ ?_)
   | (with_reducible refine LeO.bind ?_ (fun _ => ?_))
   | exact ih0 _ _ _
   | exact LeO.none _
   | refine LeO.ite ?_ ?_
   | refine LeO.bind ?_ (fun _ => ?_)
theorem whirligiglaw02_blank.mono : ∀ a0 k, LeO (whirligiglaw02_blank.f k a0) (whirligiglaw02_blank.f (k + 1) a0) := by
 intro a0 k
 have ih0 := whirligiglaw02_blank.mono_l k
 unfold whirligiglaw02_blank.f
 repeat' first
   | (with_reducible exact ih0 _ _ _)
   | (with_reducible exact LeO.refl _)
   | (with_reducible exact LeO.none _)
   | (with_reducible refine LeO.ite ?_ ?_)
   | (with_reducible refine LeO.bind ?_ (fun _ => ?_))
   | exact ih0 _ _ _
   | exact LeO.none _
   | refine LeO.ite ?_ ?_
   | refine LeO.bind ?_ (fun _ => ?_)
end Go.Proofs.YtbngfhlciebeeaaDoor.L
end
