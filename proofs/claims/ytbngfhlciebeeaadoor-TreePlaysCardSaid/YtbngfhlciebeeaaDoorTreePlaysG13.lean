/- Printed and hand-written steps towards the row (TreePlays), those that it reaches. -/
import Derived.Test.YtbngfhlciebeeaaDoorTreePlaysG12
import Derived.Test.YtbngfhlciebeeaaDoorTreePlaysG4
import Derived.Test.YtbngfhlciebeeaaDoorTreePlaysG5
import Derived.Test.YtbngfhlciebeeaaDoorTreePlaysG9
import Derived.Test.YtbngfhlciebeeaaDoorTreePlaysG10
section
namespace Go.Proofs.YtbngfhlciebeeaaDoor.Sp
set_option linter.unusedVariables false
set_option linter.unusedSimpArgs false
open Go.RowKit Go.Proofs.YtbngfhlciebeeaaDoor.L Go.Proofs.YtbngfhlciebeeaaDoorW.PrintWords
def ones : List UInt8 := [40, 41, 59, 58, 43, 45, 42, 47, 37, 60, 62, 61]
def signOne (c : UInt8) (l : List UInt8) : Option (List UInt8) :=
  if l.head? = some 61 ∧ (c = 60 ∨ c = 62 ∨ c = 33) then some [c, 61] else if c ∈ ones then some [c] else none
theorem signFind_one (c : UInt8) (l : List UInt8) : signFind (c :: l) = signOne c l := by
  unfold signFind signOne
  by_cases h1 : c ∈ ones ∨ c = 33
  · have h2 : c = 40 ∨ c = 41 ∨ c = 59 ∨ c = 58 ∨ c = 43 ∨ c = 45 ∨ c = 42 ∨ c = 47 ∨ c = 37 ∨ c = 60 ∨ c = 62 ∨ c = 61 ∨ c = 33 := by
      simpa [ones, or_assoc] using h1
    clear h1
    cases l with
    | nil =>
      rcases h2 with h | h | h | h | h | h | h | h | h | h | h | h | h <;> subst h <;> decide
    | cons d l =>
      by_cases hd : d = 61
      · subst hd
        rcases h2 with h | h | h | h | h | h | h | h | h | h | h | h | h <;> subst h <;> simp [signList, List.find?, List.isPrefixOf, ones]
      · have hd' : ((61 : UInt8) == d) = false := beq_eq_false_iff_ne.2 (fun e => hd e.symm)
        rcases h2 with h | h | h | h | h | h | h | h | h | h | h | h | h <;> subst h <;> simp [signList, List.find?, List.isPrefixOf, ones, hd, hd']
  · have hn : ∀ g ∈ signList, g.isPrefixOf (c :: l) = false := by
      intro g hg
      have hne : ∀ a : UInt8, a ∈ ones ∨ a = 33 → (a == c) = false := fun a ha => by
        rw [beq_eq_false_iff_ne]; rintro rfl; exact h1 ha
      have hg' : g = [60, 61] ∨ g = [62, 61] ∨ g = [33, 61] ∨ g = [40] ∨ g = [41] ∨ g = [59] ∨ g = [58] ∨ g = [43] ∨ g = [45] ∨ g = [42] ∨ g = [47] ∨ g = [37] ∨ g = [60] ∨ g = [62] ∨ g = [61] := by simpa [signList] using hg
      rcases hg' with h | h | h | h | h | h | h | h | h | h | h | h | h | h | h <;> (rw [h, List.isPrefixOf, hne _ (by decide)]; rfl)
    rw [List.find?_eq_none.2 (fun g hg => by rw [hn g hg]; decide), if_neg (fun h => h1 (by rcases h.2 with h | h | h <;> subst h <;> decide)), if_neg (fun h => h1 (.inl h))]
theorem ones_size : (⟨#[40, 41, 59, 58, 43, 45, 42, 47, 37, 60, 62, 61]⟩ : ByteArray).size = 12 := rfl
theorem rsign_l (s : ByteArray) (hs : s.size ≤ 140737488351232) (i : Nat) (hi : i < s.size) (c : UInt8) (d : Nat) : ∀ j, j ≤ 12 → 12 - j = d →
    Ev (fun k => whirligigref02_sign.l0 k s (i : Int) (c.toNat : Int) (⟨#[40, 41, 59, 58, 43, 45, 42, 47, 37, 60, 62, 61]⟩ : ByteArray) (j : Int))
      (if c ∈ ones.drop j then (5, s.extract i (i + 1), 0, (i : Int), (i : Int) + 1, 0) else (0, ⟨#[]⟩, 0, 0, (i : Int), 11)) := by
  have hl := len_size s
  have hos := ones_size
  have hol : ones.length = 12 := rfl
  induction d with
  | zero =>
    intro j hj hd
    rw [List.drop_eq_nil_of_le (by omega), if_neg (by simp)]
    refine Ev.succ ?_
    simp only [whirligigref02_sign.l0]
    exact Ev.neg (by omega) (Ev.some rfl)
  | succ d ih =>
    intro j hj hd
    refine Ev.succ ?_
    simp only [whirligigref02_sign.l0]
    rw [bt_nat _ j (by omega)]
    have ho : (⟨#[40, 41, 59, 58, 43, 45, 42, 47, 37, 60, 62, 61]⟩ : ByteArray).data.toList = ones := rfl
    rw [ho]
    refine Ev.pos (by omega) (Ev.pos (by omega) ?_)
    rw [drop_at (L := ones) (by omega)]
    by_cases h : ones.getD j 0 = c
    · have hm : c ∈ ones.getD j 0 :: ones.drop (j + 1) := by rw [h]; exact List.mem_cons_self
      rw [if_pos hm, wrap_at (by omega) (by omega)]
      exact Ev.pos (by rw [h]) (Ev.pos (by omega) (Ev.pos (by omega) (Ev.pos (by omega) (Ev.some (by rw [show ((i : Int) + 1) = ((i + 1 : Nat) : Int) from by omega, Int.toNat_natCast, Int.toNat_natCast])))))
    · refine Ev.neg (fun e => h (UInt8.toNat_inj.1 (by omega))) ?_
      rw [wrap_at (by omega) (by omega)]
      have := ih (j + 1) (by omega) (by omega)
      by_cases hm : c ∈ ones.drop (j + 1)
      · rw [if_pos hm] at this
        rw [if_pos (List.mem_cons_of_mem _ hm)]
        exact this
      · rw [if_neg hm] at this
        rw [if_neg (fun e => (List.mem_cons.1 e).elim (fun e => h e.symm) hm)]
        exact this
theorem rsign_ev (s : ByteArray) (hs : s.size ≤ 140737488351232) (i : Nat) (hi : i < s.size) (hc : smallB (s.data.toList.getD i 0) = false) (hd : isDigit (s.data.toList.getD i 0) = false) (hq' : ¬ (s.data.toList.getD i 0).toNat = 39) :
    Ev (fun k => whirligigref02_sign.f k s (i : Int)) (RefRel (tokenAt s.data.toList i) i) := by
  have hl := len_size s
  unfold tokenAt
  rw [if_neg (by rw [hc]; decide), if_neg (by rw [hd]; decide), if_neg hq', drop_at (by omega), signFind_one]
  unfold whirligigref02_sign.f
  have hcut1 : s.extract i (i + 1) = ⟨[s.data.toList.getD i 0].toArray⟩ := by rw [ext_list, cut_one (by omega)]
  have hb := bt_nat s i hi
  rw [hb]
  have hone : ∀ b : Bool, b = false → Ev (fun k => whirligigref02_sign.j0 k s (i : Int) ((s.data.toList.getD i 0).toNat : Int) b) (RefRel (match (if s.data.toList.getD i 0 ∈ ones then some [s.data.toList.getD i 0] else none : Option (List UInt8)) with | some g => .ok (5, g, 0, i + g.length) | none => .error 11) i) := fun b hbf => by
    subst hbf
    refine Ev.succ ?_
    simp only [whirligigref02_sign.j0]
    refine Ev.neg (by decide) ?_
    have := rsign_l s hs i hi (s.data.toList.getD i 0) 12 0 (by omega) rfl
    rw [List.drop_zero] at this
    by_cases hm : s.data.toList.getD i 0 ∈ ones
    · rw [if_pos hm] at this
      rw [if_pos hm]
      simp only [RefRel]
      rw [← hcut1]
      exact this
    · rw [if_neg hm] at this
      rw [if_neg hm]
      exact this
  refine Ev.pos (by omega) (Ev.pos (by omega) ?_)
  rw [wrap_at (by omega) (by omega)]
  unfold signOne
  by_cases h1 : i + 1 < s.size
  · refine Ev.pos (by omega) (Ev.pos (by omega) ?_)
    rw [show ((i : Int) + 1) = ((i + 1 : Nat) : Int) from by omega, bt_nat s (i + 1) h1, drop_at (L := s.data.toList) (i := i + 1) (by omega)]
    by_cases h61 : s.data.toList.getD (i + 1) 0 = 61
    · refine Ev.pos (by rw [h61]; rfl) ?_
      have htwo : (s.data.toList.getD i 0 = 60 ∨ s.data.toList.getD i 0 = 62 ∨ s.data.toList.getD i 0 = 33) → Ev (fun k => whirligigref02_sign.j0 k s (i : Int) ((s.data.toList.getD i 0).toNat : Int) true) (RefRel (.ok (5, [s.data.toList.getD i 0, 61], 0, i + 2)) i) := fun _ => by
        refine Ev.succ ?_
        simp only [whirligigref02_sign.j0]
        rw [wrap_at (by omega) (by omega)]
        refine Ev.pos trivial (Ev.pos (by omega) (Ev.pos (by omega) (Ev.pos (by omega) (Ev.some ?_))))
        have hcut2 : s.extract i (i + 2) = ⟨[s.data.toList.getD i 0, 61].toArray⟩ := by
          rw [ext_list, ← cut_append (j := i + 1) (by omega) (by omega), cut_one (by omega), cut_one (by omega), h61]; rfl
        simp only [RefRel]
        rw [← hcut2, show ((i : Int) + 2) = ((i + 2 : Nat) : Int) from by omega, Int.toNat_natCast, Int.toNat_natCast]
      by_cases h60 : s.data.toList.getD i 0 = 60
      · rw [if_pos ⟨by rw [h61]; rfl, .inl h60⟩]
        exact Ev.pos (by rw [h60]; rfl) (htwo (.inl h60))
      · refine Ev.neg (fun e => h60 (UInt8.toNat_inj.1 (by simpa using (by omega : (s.data.toList.getD i 0).toNat = 60)))) ?_
        by_cases h62 : s.data.toList.getD i 0 = 62
        · rw [if_pos ⟨by rw [h61]; rfl, .inr (.inl h62)⟩]
          exact Ev.pos (by rw [h62]; rfl) (htwo (.inr (.inl h62)))
        · refine Ev.neg (fun e => h62 (UInt8.toNat_inj.1 (by simpa using (by omega : (s.data.toList.getD i 0).toNat = 62)))) ?_
          by_cases h33 : s.data.toList.getD i 0 = 33
          · rw [if_pos ⟨by rw [h61]; rfl, .inr (.inr h33)⟩, show (((s.data.toList.getD i 0).toNat : Int) == 33) = true from by rw [h33]; rfl]
            exact htwo (.inr (.inr h33))
          · rw [if_neg (fun e => e.2.elim h60 (fun e => e.elim h62 h33))]
            exact hone _ (by rw [beq_eq_false_iff_ne]; exact fun e => h33 (UInt8.toNat_inj.1 (by simpa using (by omega : (s.data.toList.getD i 0).toNat = 33))))
    · refine Ev.neg (fun e => h61 (UInt8.toNat_inj.1 (by simpa using (by omega : (s.data.toList.getD (i + 1) 0).toNat = 61)))) ?_
      rw [if_neg (fun e => h61 (by simpa using e.1))]
      exact hone _ rfl
  · refine Ev.neg (by omega) ?_
    rw [List.drop_eq_nil_of_le (by omega), if_neg (fun e => by simp at e)]
    exact hone _ rfl
theorem rtoken_ev (s : ByteArray) (hs : s.size ≤ 140737488351232) (i : Nat) (hi : i < s.size) :
    Ev (fun k => whirligigref02_Token.f k s (i : Int)) (RefRel (tokenAt s.data.toList i) i) := by
  unfold whirligigref02_Token.f
  rw [bt_nat s i hi]
  refine Ev.pos (by omega) (Ev.pos (by omega) (Ev.bind_some (letter_ev _) ?_))
  cases hc : smallB (s.data.toList.getD i 0) with
  | true => exact Ev.pos rfl (Ev.bind (rpath_ev s hs i hi hc) (Ev.some rfl))
  | false =>
    refine Ev.neg (by decide) ?_
    cases hd : isDigit (s.data.toList.getD i 0) with
    | true =>
      have hb := digit_bounds hd
      refine Ev.pos (by omega) ?_
      rw [decide_eq_true (by omega)]
      refine Ev.succ ?_
      simp only [whirligigref02_Token.j0]
      exact Ev.pos trivial (Ev.bind (rnumber_ev s hs i hi hc hd) (Ev.some rfl))
    | false =>
      have hrest : Ev (fun k => whirligigref02_Token.j0 k s (i : Int) ((s.data.toList.getD i 0).toNat : Int) false) (RefRel (tokenAt s.data.toList i) i) := by
        refine Ev.succ ?_
        simp only [whirligigref02_Token.j0]
        refine Ev.neg (by decide) ?_
        by_cases hq : (s.data.toList.getD i 0).toNat = 39
        · exact Ev.pos (by omega) (Ev.bind (rquote_ev s hs i hi hc hd hq) (Ev.some rfl))
        · exact Ev.neg (by omega) (Ev.bind (rsign_ev s hs i hi hc hd hq) (Ev.some rfl))
      by_cases h48 : 48 ≤ (s.data.toList.getD i 0).toNat
      · refine Ev.pos (by omega) ?_
        unfold isDigit at hd
        rw [decide_eq_true h48, Bool.true_and, decide_eq_false_iff_not] at hd
        rw [decide_eq_false (by omega)]
        exact hrest
      · exact Ev.neg (by omega) hrest
def Tk.s31 (t : Tk) : S31 := ⟨t.kind, ⟨t.text.toArray⟩, t.n, (t.pos : Int)⟩
theorem rlex_blank (s : ByteArray) (hs : s.size ≤ 140737488351232) (out : List S31) (r : List S31 × Int × Int) (d : Nat) : ∀ i, i ≤ s.size → s.size - i = d →
    Ev (fun k => whirligigref02_Lex.l0 k s out ((pend blankB s.data.toList i : Nat) : Int)) r → Ev (fun k => whirligigref02_Lex.l0 k s out (i : Int)) r := by
  have hl := len_size s
  induction d with
  | zero =>
    intro i hi hd h
    rw [pend_end (by omega)] at h
    exact h
  | succ d ih =>
    intro i hi hd h
    cases hb : blankB (s.data.toList.getD i 0) with
    | true =>
      rw [pend_step (by omega) hb] at h
      refine Ev.succ ?_
      simp only [whirligigref02_Lex.l0]
      rw [bt_nat s i (by omega), wrap_at (by omega) (by omega)]
      have h32 : (s.data.toList.getD i 0).toNat = 32 := by unfold blankB at hb; exact beq_iff_eq.1 hb
      exact Ev.pos (by omega) (Ev.pos (by omega) (Ev.pos (by omega) (ih (i + 1) (by omega) (by omega) h)))
    | false =>
      rw [pend_stop (by omega) hb] at h
      exact h
theorem pend_not {p : UInt8 → Bool} {L : List UInt8} {i : Nat} (h : pend p L i < L.length) : p (L.getD (pend p L i) 0) = false := by
  cases hb : p (L.getD (pend p L i) 0) with
  | false => rfl
  | true =>
    exfalso
    have h1 : cut L i (pend p L i) = (L.drop i).takeWhile p := cut_pend p L i
    have h2 := List.takeWhile_append_dropWhile (p := p) (l := L.drop i)
    have h3 : (L.drop i).dropWhile p = L.drop (pend p L i) := by
      have e : (L.drop i).drop ((L.drop i).takeWhile p).length = (L.drop i).dropWhile p := by
        conv => lhs; arg 2; rw [← h2]
        rw [List.drop_left]
      rw [← e, List.drop_drop]
      unfold pend
      congr 1
    rw [drop_at h] at h3
    have := List.head?_dropWhile_not p (L.drop i)
    rw [h3] at this
    simp only [List.head?_cons] at this
    rw [hb] at this
    cases this
theorem rlex_l (s : ByteArray) (hs : s.size ≤ 140737488351232) : ∀ (f i : Nat) (out : List Tk), i ≤ s.size → s.size - i < f → out.length ≤ 120 →
    Ev (fun k => whirligigref02_Lex.l0 k s (out.map Tk.s31) (i : Int)) (((lexGo s.data.toList f i out).1).map Tk.s31, (lexGo s.data.toList f i out).2.1, ((lexGo s.data.toList f i out).2.2 : Int))
  | 0, i, out, hi, hf, ho => by omega
  | f + 1, i, out, hi, hf, ho => by
    have hl := len_size s
    have hp := le_pend blankB s.data.toList i
    have hq := pend_le (p := blankB) (L := s.data.toList) (i := i) (by omega)
    have hn := pend_not (p := blankB) (L := s.data.toList) (i := i)
    refine rlex_blank s hs _ _ _ i hi rfl ?_
    simp only [lexGo]
    generalize pend blankB s.data.toList i = j at *
    refine Ev.succ ?_
    simp only [whirligigref02_Lex.l0]
    by_cases h1 : s.data.toList.length ≤ j
    · rw [if_pos h1]
      exact Ev.neg (by omega) (Ev.some (by simp))
    · rw [if_neg h1]
      have hb := hn (by omega)
      rw [bt_nat s j (by omega)]
      have h32 : (s.data.toList.getD j 0).toNat ≠ 32 := by
        intro e
        unfold blankB at hb
        rw [e] at hb
        cases hb
      refine Ev.pos (by omega) (Ev.pos (by omega) (Ev.neg (by omega) ?_))
      by_cases h2 : out.length = 120
      · rw [if_pos h2]
        exact Ev.pos (by rw [List.length_map]; omega) (Ev.some (by simp))
      · rw [if_neg h2]
        refine Ev.neg (by rw [List.length_map]; omega) (Ev.bind (rtoken_ev s hs j (by omega)) ?_)
        cases ht : tokenAt s.data.toList j with
        | error e =>
          have hne : e ≠ 0 := by
            obtain ⟨r, _, h⟩ := token_ev s hs j (by omega)
            rw [ht] at h
            exact h.2
          exact Ev.neg hne (Ev.some (by simp [RefRel]))
        | ok x =>
          obtain ⟨k, t, n, e⟩ := x
          have hle := tokenAt_le (by omega) ht
          refine Ev.pos rfl (Ev.pos (by rw [List.length_map]; omega) ?_)
          have := rlex_l s hs f e (out ++ [⟨k, t, n, j⟩]) (by omega) (by omega) (by rw [List.length_append]; simp; omega)
          rw [List.map_append] at this
          exact this
theorem rLex_ev (s : ByteArray) (hs : s.size ≤ 140737488351232) : Ev (fun k => whirligigref02_Lex.f k s) (((lex s.data.toList).1).map Tk.s31, (lex s.data.toList).2.1, ((lex s.data.toList).2.2 : Int)) := by
  have hl := len_size s
  exact rlex_l s hs (s.data.toList.length + 1) 0 [] (by omega) (by omega) (by simp)
end Go.Proofs.YtbngfhlciebeeaaDoor.Sp
end
section
namespace Go.Proofs.YtbngfhlciebeeaaDoor.L
open Go.RowKit Go.Proofs.YtbngfhlciebeeaaDoorW.PrintWords Go.Proofs.YtbngfhlciebeeaaDoorW.PrintLast Go.Proofs.YtbngfhlciebeeaaDoorW.PrintMore
attribute [local go_sem] max2_int min2_int max_two min_two max_three min_three max_four min_four   -- for this text's walks alone
set_option linter.unusedVariables false
set_option linter.unusedSimpArgs false
def tok_Event.f (k : Nat) (a0 : ByteArray) : Option (Bool) := (tok_Lex.f k a0).bind fun bt252 => (if bt252.2.1 = 0 then (if (bt252.1.length : Int) = 1 then (if 0 < (bt252.1.length : Int) then (if ((rd_T32 bt252.1 0).f0) = 1 then (some (((rd_T32 bt252.1 0).f1).toList == a0.toList)) else (if ((rd_T32 bt252.1 0).f0) = 2 then (some (((rd_T32 bt252.1 0).f1).toList == a0.toList)) else (some false))) else (none)) else (some false)) else (some false))
set_option maxHeartbeats 8000000 in
set_option maxRecDepth 100000 in
theorem tok_Event.calls (k : Nat) (a0 : ByteArray) (r : Bool) (w : World) (hL : Laid w) (h : tok_Event.f k a0 = some r) :
  Calls Tryd.prog 24 #[.string a0] w fun e w' => e = .returned (.bool r) ∧ Below w.heap.size w w' := by
 have HB := Aside0.mk (Below.refl w.heap.size w)
 have HLD := Aside0.mk hL
 clear hL
 have H : ((tok_Lex.f k a0).bind fun bt252 => (if bt252.2.1 = 0 then (if (bt252.1.length : Int) = 1 then (if 0 < (bt252.1.length : Int) then (if ((rd_T32 bt252.1 0).f0) = 1 then (some (((rd_T32 bt252.1 0).f1).toList == a0.toList)) else (if ((rd_T32 bt252.1 0).f0) = 2 then (some (((rd_T32 bt252.1 0).f1).toList == a0.toList)) else (some false))) else (none)) else (some false)) else (some false))) = some r := h
 clear h
 replace H := Option.bind_eq_some_iff.mp H
 obtain ⟨⟨t252, t253, t254⟩, A20, H⟩ := H
 (try dsimp -simprocs only at H)
 have A2 := Aside0.mk A20
 clear A20
 by_cases c3 : t253 = 0
 ·rw [if_pos c3] at H
  have c3b0 := beq_iff_eq.mpr c3
  have c3b1 := bne_eq_false_iff_eq.mpr c3
  clear c3
  by_cases c4 : (t252.length : Int) = 1
  ·rw [if_pos c4] at H
   have c4b0 := beq_iff_eq.mpr c4
   have c4b1 := bne_eq_false_iff_eq.mpr c4
   clear c4
   by_cases c5 : 0 < (t252.length : Int)
   ·rw [if_pos c5] at H
    have c5b0 := decide_eq_true c5
    have c5b1 : decide (0 < t252.length) = true := decide_eq_true (by omega)
    clear c5
    by_cases c6 : ((rd_T32 t252 0).f0) = 1
    ·rw [if_pos c6] at H; have c6b0 := beq_iff_eq.mpr c6; have c6b1 := bne_eq_false_iff_eq.mpr c6; clear c6; obtain rfl := Option.some.inj H
     go_enter Tryd.func24, Tryd.ntmps24
     go_wp2_with (first | ((with_reducible refine gc 20 rfl ?_); refine gl (some 8) #[.string a0] Tryd.func20 ?_; (with_reducible refine (tok_Lex.calls k a0 t252 t253 t254 _ ?side1 A2.out).mono ?_); (case side1 => exact Laid.below HLD.out qB); rintro e w7 ⟨v255, rfl, ho0, hb⟩; refine ⟨_, rfl, ?_⟩; have HO256 := Aside0.mk (Kd.R_lower ho0 (below_size qB)); replace HB := bst hb; (try clear hb); (try clear ho0); obtain ⟨Ao8, co8, eo8⟩ := Kd.R_slice HO256.out; subst eo8; have p257 : 0 ≤ (0 : Int) := (by omega); have q257 : 0 < (t252.length : Int) := qD; obtain ⟨ad257, e257, hx257_0, hx257_1, hx257_2, hx257_3⟩ := at_T32 (Kd.R_reads' HO256.out).2.2 0 p257 q257; cases e257; have qi257 : (0 < t252.length) = True := eq_true (by omega); (try rw [show ((0 : Int)).toNat = 0 from rfl] at hx257_0); (try rw [show 0 * 4 = 0 from rfl] at hx257_0); (try rw [Addr.add_zero'] at hx257_0); (try rw [show ((0 : Int)).toNat = 0 from rfl] at hx257_1); (try rw [show 0 * 4 = 0 from rfl] at hx257_1); (try rw [Addr.add_zero'] at hx257_1); (try rw [show ((0 : Int)).toNat = 0 from rfl] at hx257_2); (try rw [show 0 * 4 = 0 from rfl] at hx257_2); (try rw [Addr.add_zero'] at hx257_2); (try rw [show ((0 : Int)).toNat = 0 from rfl] at hx257_3); (try rw [show 0 * 4 = 0 from rfl] at hx257_3); (try rw [Addr.add_zero'] at hx257_3); replace p257 := eq_true p257; replace q257 := eq_true q257; have p258 : 0 ≤ (0 : Int) := (by omega); have q258 : 0 < (t252.length : Int) := qD; obtain ⟨ad258, e258, hx258_0, hx258_1, hx258_2, hx258_3⟩ := at_T32 (Kd.R_reads' HO256.out).2.2 0 p258 q258; obtain rfl : ad257 = ad258 := (by injection e258); have qi258 : (0 < t252.length) = True := eq_true (by omega); (try rw [show ((0 : Int)).toNat = 0 from rfl] at hx258_0); (try rw [show 0 * 4 = 0 from rfl] at hx258_0); (try rw [Addr.add_zero'] at hx258_0); (try rw [show ((0 : Int)).toNat = 0 from rfl] at hx258_1); (try rw [show 0 * 4 = 0 from rfl] at hx258_1); (try rw [Addr.add_zero'] at hx258_1); (try rw [show ((0 : Int)).toNat = 0 from rfl] at hx258_2); (try rw [show 0 * 4 = 0 from rfl] at hx258_2); (try rw [Addr.add_zero'] at hx258_2); (try rw [show ((0 : Int)).toNat = 0 from rfl] at hx258_3); (try rw [show 0 * 4 = 0 from rfl] at hx258_3); (try rw [Addr.add_zero'] at hx258_3); replace p258 := eq_true p258; replace q258 := eq_true q258))
     go_ret; exact ⟨qR, qB⟩
    rw [if_neg c6] at H
    have c6b0 := beq_eq_false_iff_ne.mpr c6
    have c6b1 := bne_iff_ne.mpr c6
    by_cases c9 : ((rd_T32 t252 0).f0) = 2
    ·rw [if_pos c9] at H; have c9b0 := beq_iff_eq.mpr c9; have c9b1 := bne_eq_false_iff_eq.mpr c9; clear c9; obtain rfl := Option.some.inj H
     go_enter Tryd.func24, Tryd.ntmps24
     go_wp2_with (first | ((with_reducible refine gc 20 rfl ?_); refine gl (some 8) #[.string a0] Tryd.func20 ?_; (with_reducible refine (tok_Lex.calls k a0 t252 t253 t254 _ ?side1 A2.out).mono ?_); (case side1 => exact Laid.below HLD.out qB); rintro e w10 ⟨v255, rfl, ho0, hb⟩; refine ⟨_, rfl, ?_⟩; have HO256 := Aside0.mk (Kd.R_lower ho0 (below_size qB)); replace HB := bst hb; (try clear hb); (try clear ho0); obtain ⟨Ao11, co11, eo11⟩ := Kd.R_slice HO256.out; subst eo11; have p257 : 0 ≤ (0 : Int) := (by omega); have q257 : 0 < (t252.length : Int) := qD; obtain ⟨ad257, e257, hx257_0, hx257_1, hx257_2, hx257_3⟩ := at_T32 (Kd.R_reads' HO256.out).2.2 0 p257 q257; cases e257; have qi257 : (0 < t252.length) = True := eq_true (by omega); (try rw [show ((0 : Int)).toNat = 0 from rfl] at hx257_0); (try rw [show 0 * 4 = 0 from rfl] at hx257_0); (try rw [Addr.add_zero'] at hx257_0); (try rw [show ((0 : Int)).toNat = 0 from rfl] at hx257_1); (try rw [show 0 * 4 = 0 from rfl] at hx257_1); (try rw [Addr.add_zero'] at hx257_1); (try rw [show ((0 : Int)).toNat = 0 from rfl] at hx257_2); (try rw [show 0 * 4 = 0 from rfl] at hx257_2); (try rw [Addr.add_zero'] at hx257_2); (try rw [show ((0 : Int)).toNat = 0 from rfl] at hx257_3); (try rw [show 0 * 4 = 0 from rfl] at hx257_3); (try rw [Addr.add_zero'] at hx257_3); replace p257 := eq_true p257; replace q257 := eq_true q257; have p259 : 0 ≤ (0 : Int) := (by omega); have q259 : 0 < (t252.length : Int) := qD; obtain ⟨ad259, e259, hx259_0, hx259_1, hx259_2, hx259_3⟩ := at_T32 (Kd.R_reads' HO256.out).2.2 0 p259 q259; obtain rfl : ad257 = ad259 := (by injection e259); have qi259 : (0 < t252.length) = True := eq_true (by omega); (try rw [show ((0 : Int)).toNat = 0 from rfl] at hx259_0); (try rw [show 0 * 4 = 0 from rfl] at hx259_0); (try rw [Addr.add_zero'] at hx259_0); (try rw [show ((0 : Int)).toNat = 0 from rfl] at hx259_1); (try rw [show 0 * 4 = 0 from rfl] at hx259_1); (try rw [Addr.add_zero'] at hx259_1); (try rw [show ((0 : Int)).toNat = 0 from rfl] at hx259_2); (try rw [show 0 * 4 = 0 from rfl] at hx259_2); (try rw [Addr.add_zero'] at hx259_2); (try rw [show ((0 : Int)).toNat = 0 from rfl] at hx259_3); (try rw [show 0 * 4 = 0 from rfl] at hx259_3); (try rw [Addr.add_zero'] at hx259_3); replace p259 := eq_true p259; replace q259 := eq_true q259; have p260 : 0 ≤ (0 : Int) := (by omega); have q260 : 0 < (t252.length : Int) := qD; obtain ⟨ad260, e260, hx260_0, hx260_1, hx260_2, hx260_3⟩ := at_T32 (Kd.R_reads' HO256.out).2.2 0 p260 q260; obtain rfl : ad257 = ad260 := (by injection e260); have qi260 : (0 < t252.length) = True := eq_true (by omega); (try rw [show ((0 : Int)).toNat = 0 from rfl] at hx260_0); (try rw [show 0 * 4 = 0 from rfl] at hx260_0); (try rw [Addr.add_zero'] at hx260_0); (try rw [show ((0 : Int)).toNat = 0 from rfl] at hx260_1); (try rw [show 0 * 4 = 0 from rfl] at hx260_1); (try rw [Addr.add_zero'] at hx260_1); (try rw [show ((0 : Int)).toNat = 0 from rfl] at hx260_2); (try rw [show 0 * 4 = 0 from rfl] at hx260_2); (try rw [Addr.add_zero'] at hx260_2); (try rw [show ((0 : Int)).toNat = 0 from rfl] at hx260_3); (try rw [show 0 * 4 = 0 from rfl] at hx260_3); (try rw [Addr.add_zero'] at hx260_3); replace p260 := eq_true p260; replace q260 := eq_true q260))
     go_ret; exact ⟨qR, qB⟩
    rw [if_neg c9] at H
    have c9b0 := beq_eq_false_iff_ne.mpr c9
    have c9b1 := bne_iff_ne.mpr c9
    obtain rfl := Option.some.inj H
    go_enter Tryd.func24, Tryd.ntmps24
    go_wp2_with (first | ((with_reducible refine gc 20 rfl ?_); refine gl (some 8) #[.string a0] Tryd.func20 ?_; (with_reducible refine (tok_Lex.calls k a0 t252 t253 t254 _ ?side1 A2.out).mono ?_); (case side1 => exact Laid.below HLD.out qB); rintro e w12 ⟨v255, rfl, ho0, hb⟩; refine ⟨_, rfl, ?_⟩; have HO256 := Aside0.mk (Kd.R_lower ho0 (below_size qB)); replace HB := bst hb; (try clear hb); (try clear ho0); obtain ⟨Ao13, co13, eo13⟩ := Kd.R_slice HO256.out; subst eo13; have p257 : 0 ≤ (0 : Int) := (by omega); have q257 : 0 < (t252.length : Int) := qD; obtain ⟨ad257, e257, hx257_0, hx257_1, hx257_2, hx257_3⟩ := at_T32 (Kd.R_reads' HO256.out).2.2 0 p257 q257; cases e257; have qi257 : (0 < t252.length) = True := eq_true (by omega); (try rw [show ((0 : Int)).toNat = 0 from rfl] at hx257_0); (try rw [show 0 * 4 = 0 from rfl] at hx257_0); (try rw [Addr.add_zero'] at hx257_0); (try rw [show ((0 : Int)).toNat = 0 from rfl] at hx257_1); (try rw [show 0 * 4 = 0 from rfl] at hx257_1); (try rw [Addr.add_zero'] at hx257_1); (try rw [show ((0 : Int)).toNat = 0 from rfl] at hx257_2); (try rw [show 0 * 4 = 0 from rfl] at hx257_2); (try rw [Addr.add_zero'] at hx257_2); (try rw [show ((0 : Int)).toNat = 0 from rfl] at hx257_3); (try rw [show 0 * 4 = 0 from rfl] at hx257_3); (try rw [Addr.add_zero'] at hx257_3); replace p257 := eq_true p257; replace q257 := eq_true q257; have p259 : 0 ≤ (0 : Int) := (by omega); have q259 : 0 < (t252.length : Int) := qD; obtain ⟨ad259, e259, hx259_0, hx259_1, hx259_2, hx259_3⟩ := at_T32 (Kd.R_reads' HO256.out).2.2 0 p259 q259; obtain rfl : ad257 = ad259 := (by injection e259); have qi259 : (0 < t252.length) = True := eq_true (by omega); (try rw [show ((0 : Int)).toNat = 0 from rfl] at hx259_0); (try rw [show 0 * 4 = 0 from rfl] at hx259_0); (try rw [Addr.add_zero'] at hx259_0); (try rw [show ((0 : Int)).toNat = 0 from rfl] at hx259_1); (try rw [show 0 * 4 = 0 from rfl] at hx259_1); (try rw [Addr.add_zero'] at hx259_1); (try rw [show ((0 : Int)).toNat = 0 from rfl] at hx259_2); (try rw [show 0 * 4 = 0 from rfl] at hx259_2); (try rw [Addr.add_zero'] at hx259_2); (try rw [show ((0 : Int)).toNat = 0 from rfl] at hx259_3); (try rw [show 0 * 4 = 0 from rfl] at hx259_3); (try rw [Addr.add_zero'] at hx259_3); replace p259 := eq_true p259; replace q259 := eq_true q259))
    go_ret
    exact ⟨qR, qB⟩
   rw [if_neg c5] at H
   exact absurd H (by simp)
  rw [if_neg c4] at H
  have c4b0 := beq_eq_false_iff_ne.mpr c4
  have c4b1 := bne_iff_ne.mpr c4
  obtain rfl := Option.some.inj H
  go_enter Tryd.func24, Tryd.ntmps24
  go_wp2_with (first | ((with_reducible refine gc 20 rfl ?_); refine gl (some 8) #[.string a0] Tryd.func20 ?_; (with_reducible refine (tok_Lex.calls k a0 t252 t253 t254 _ ?side1 A2.out).mono ?_); (case side1 => exact Laid.below HLD.out qB); rintro e w14 ⟨v255, rfl, ho0, hb⟩; refine ⟨_, rfl, ?_⟩; have HO256 := Aside0.mk (Kd.R_lower ho0 (below_size qB)); replace HB := bst hb; (try clear hb); (try clear ho0); obtain ⟨Ao15, co15, eo15⟩ := Kd.R_slice HO256.out; subst eo15))
  go_ret
  exact ⟨qR, qB⟩
 rw [if_neg c3] at H
 have c3b0 := beq_eq_false_iff_ne.mpr c3
 have c3b1 := bne_iff_ne.mpr c3
 obtain rfl := Option.some.inj H
 go_enter Tryd.func24, Tryd.ntmps24
 go_wp2_with (first | ((with_reducible refine gc 20 rfl ?_); refine gl (some 8) #[.string a0] Tryd.func20 ?_; (with_reducible refine (tok_Lex.calls k a0 t252 t253 t254 _ ?side1 A2.out).mono ?_); (case side1 => exact Laid.below HLD.out qB); rintro e w16 ⟨v255, rfl, ho0, hb⟩; refine ⟨_, rfl, ?_⟩; have HO256 := Aside0.mk (Kd.R_lower ho0 (below_size qB)); replace HB := bst hb; (try clear hb); (try clear ho0)))
 go_ret
 exact ⟨qR, qB⟩
def whirligigref02_Event.f (k : Nat) (a0 : ByteArray) : Option (Bool) := (whirligigref02_Lex.f k a0).bind fun bt261 => (if bt261.2.1 = 0 then (if (bt261.1.length : Int) = 1 then (if 0 < (bt261.1.length : Int) then (if ((rd_T31 bt261.1 0).f0) < 3 then (some (((rd_T31 bt261.1 0).f1).toList == a0.toList)) else (some false)) else (none)) else (some false)) else (some false))
set_option maxHeartbeats 8000000 in
set_option maxRecDepth 100000 in
theorem whirligigref02_Event.calls (k : Nat) (a0 : ByteArray) (r : Bool) (w : World) (h : whirligigref02_Event.f k a0 = some r) :
  Calls Tryd.prog 25 #[.string a0] w fun e w' => e = .returned (.bool r) ∧ Below w.heap.size w w' := by
 have HB := Aside0.mk (Below.refl w.heap.size w)
 have H : ((whirligigref02_Lex.f k a0).bind fun bt261 => (if bt261.2.1 = 0 then (if (bt261.1.length : Int) = 1 then (if 0 < (bt261.1.length : Int) then (if ((rd_T31 bt261.1 0).f0) < 3 then (some (((rd_T31 bt261.1 0).f1).toList == a0.toList)) else (some false)) else (none)) else (some false)) else (some false))) = some r := h
 clear h
 replace H := Option.bind_eq_some_iff.mp H
 obtain ⟨⟨t261, t262, t263⟩, A20, H⟩ := H
 (try dsimp -simprocs only at H)
 have A2 := Aside0.mk A20
 clear A20
 by_cases c3 : t262 = 0
 ·rw [if_pos c3] at H
  have c3b0 := beq_iff_eq.mpr c3
  have c3b1 := bne_eq_false_iff_eq.mpr c3
  clear c3
  by_cases c4 : (t261.length : Int) = 1
  ·rw [if_pos c4] at H
   have c4b0 := beq_iff_eq.mpr c4
   have c4b1 := bne_eq_false_iff_eq.mpr c4
   clear c4
   by_cases c5 : 0 < (t261.length : Int)
   ·rw [if_pos c5] at H
    have c5b0 := decide_eq_true c5
    have c5b1 : decide (0 < t261.length) = true := decide_eq_true (by omega)
    clear c5
    replace H := iD H
    rcases H with ⟨c6b0, H⟩ | ⟨c6b0, H⟩
    ·obtain rfl := Option.some.inj H
     go_enter Tryd.func25, Tryd.ntmps25
     go_wp2_with (first | ((with_reducible refine gc 21 rfl ?_); refine gl (some 8) #[.string a0] Tryd.func21 ?_; (with_reducible refine (whirligigref02_Lex.calls k a0 t261 t262 t263 _ A2.out).mono ?_); rintro e w7 ⟨v264, rfl, ho0, hb⟩; refine ⟨_, rfl, ?_⟩; have HO265 := Aside0.mk (Kd.R_lower ho0 (below_size qB)); replace HB := bst hb; (try clear hb); (try clear ho0); obtain ⟨Ao8, co8, eo8⟩ := Kd.R_slice HO265.out; subst eo8; have p266 : 0 ≤ (0 : Int) := (by omega); have q266 : 0 < (t261.length : Int) := qD; obtain ⟨ad266, e266, hx266_0, hx266_1, hx266_2, hx266_3⟩ := at_T31 (Kd.R_reads' HO265.out).2.2 0 p266 q266; cases e266; have qi266 : (0 < t261.length) = True := eq_true (by omega); (try rw [show ((0 : Int)).toNat = 0 from rfl] at hx266_0); (try rw [show 0 * 4 = 0 from rfl] at hx266_0); (try rw [Addr.add_zero'] at hx266_0); (try rw [show ((0 : Int)).toNat = 0 from rfl] at hx266_1); (try rw [show 0 * 4 = 0 from rfl] at hx266_1); (try rw [Addr.add_zero'] at hx266_1); (try rw [show ((0 : Int)).toNat = 0 from rfl] at hx266_2); (try rw [show 0 * 4 = 0 from rfl] at hx266_2); (try rw [Addr.add_zero'] at hx266_2); (try rw [show ((0 : Int)).toNat = 0 from rfl] at hx266_3); (try rw [show 0 * 4 = 0 from rfl] at hx266_3); (try rw [Addr.add_zero'] at hx266_3); replace p266 := eq_true p266; replace q266 := eq_true q266; have p267 : 0 ≤ (0 : Int) := (by omega); have q267 : 0 < (t261.length : Int) := qD; obtain ⟨ad267, e267, hx267_0, hx267_1, hx267_2, hx267_3⟩ := at_T31 (Kd.R_reads' HO265.out).2.2 0 p267 q267; obtain rfl : ad266 = ad267 := (by injection e267); have qi267 : (0 < t261.length) = True := eq_true (by omega); (try rw [show ((0 : Int)).toNat = 0 from rfl] at hx267_0); (try rw [show 0 * 4 = 0 from rfl] at hx267_0); (try rw [Addr.add_zero'] at hx267_0); (try rw [show ((0 : Int)).toNat = 0 from rfl] at hx267_1); (try rw [show 0 * 4 = 0 from rfl] at hx267_1); (try rw [Addr.add_zero'] at hx267_1); (try rw [show ((0 : Int)).toNat = 0 from rfl] at hx267_2); (try rw [show 0 * 4 = 0 from rfl] at hx267_2); (try rw [Addr.add_zero'] at hx267_2); (try rw [show ((0 : Int)).toNat = 0 from rfl] at hx267_3); (try rw [show 0 * 4 = 0 from rfl] at hx267_3); (try rw [Addr.add_zero'] at hx267_3); replace p267 := eq_true p267; replace q267 := eq_true q267))
     go_ret; exact ⟨qR, qB⟩
    obtain rfl := Option.some.inj H
    go_enter Tryd.func25, Tryd.ntmps25
    go_wp2_with (first | ((with_reducible refine gc 21 rfl ?_); refine gl (some 8) #[.string a0] Tryd.func21 ?_; (with_reducible refine (whirligigref02_Lex.calls k a0 t261 t262 t263 _ A2.out).mono ?_); rintro e w9 ⟨v264, rfl, ho0, hb⟩; refine ⟨_, rfl, ?_⟩; have HO265 := Aside0.mk (Kd.R_lower ho0 (below_size qB)); replace HB := bst hb; (try clear hb); (try clear ho0); obtain ⟨Ao10, co10, eo10⟩ := Kd.R_slice HO265.out; subst eo10; have p266 : 0 ≤ (0 : Int) := (by omega); have q266 : 0 < (t261.length : Int) := qD; obtain ⟨ad266, e266, hx266_0, hx266_1, hx266_2, hx266_3⟩ := at_T31 (Kd.R_reads' HO265.out).2.2 0 p266 q266; cases e266; have qi266 : (0 < t261.length) = True := eq_true (by omega); (try rw [show ((0 : Int)).toNat = 0 from rfl] at hx266_0); (try rw [show 0 * 4 = 0 from rfl] at hx266_0); (try rw [Addr.add_zero'] at hx266_0); (try rw [show ((0 : Int)).toNat = 0 from rfl] at hx266_1); (try rw [show 0 * 4 = 0 from rfl] at hx266_1); (try rw [Addr.add_zero'] at hx266_1); (try rw [show ((0 : Int)).toNat = 0 from rfl] at hx266_2); (try rw [show 0 * 4 = 0 from rfl] at hx266_2); (try rw [Addr.add_zero'] at hx266_2); (try rw [show ((0 : Int)).toNat = 0 from rfl] at hx266_3); (try rw [show 0 * 4 = 0 from rfl] at hx266_3); (try rw [Addr.add_zero'] at hx266_3); replace p266 := eq_true p266; replace q266 := eq_true q266))
    go_ret
    exact ⟨qR, qB⟩
   rw [if_neg c5] at H
   exact absurd H (by simp)
  rw [if_neg c4] at H
  have c4b0 := beq_eq_false_iff_ne.mpr c4
  have c4b1 := bne_iff_ne.mpr c4
  obtain rfl := Option.some.inj H
  go_enter Tryd.func25, Tryd.ntmps25
  go_wp2_with (first | ((with_reducible refine gc 21 rfl ?_); refine gl (some 8) #[.string a0] Tryd.func21 ?_; (with_reducible refine (whirligigref02_Lex.calls k a0 t261 t262 t263 _ A2.out).mono ?_); rintro e w11 ⟨v264, rfl, ho0, hb⟩; refine ⟨_, rfl, ?_⟩; have HO265 := Aside0.mk (Kd.R_lower ho0 (below_size qB)); replace HB := bst hb; (try clear hb); (try clear ho0); obtain ⟨Ao12, co12, eo12⟩ := Kd.R_slice HO265.out; subst eo12))
  go_ret
  exact ⟨qR, qB⟩
 rw [if_neg c3] at H
 have c3b0 := beq_eq_false_iff_ne.mpr c3
 have c3b1 := bne_iff_ne.mpr c3
 obtain rfl := Option.some.inj H
 go_enter Tryd.func25, Tryd.ntmps25
 go_wp2_with (first | ((with_reducible refine gc 21 rfl ?_); refine gl (some 8) #[.string a0] Tryd.func21 ?_; (with_reducible refine (whirligigref02_Lex.calls k a0 t261 t262 t263 _ A2.out).mono ?_); rintro e w13 ⟨v264, rfl, ho0, hb⟩; refine ⟨_, rfl, ?_⟩; have HO265 := Aside0.mk (Kd.R_lower ho0 (below_size qB)); replace HB := bst hb; (try clear hb); (try clear ho0)))
 go_ret
 exact ⟨qR, qB⟩
def tok_Means.f (a0 : ByteArray) : Option (Bool) := if a0.toList = ([99, 104, 97, 114, 116] : List UInt8) then (some true) else (if a0.toList = ([118, 97, 114] : List UInt8) then (some true) else (if a0.toList = ([115, 116, 97, 116, 101] : List UInt8) then (some true) else (if a0.toList = ([112, 97, 114, 97, 108, 108, 101, 108] : List UInt8) then (some true) else (if a0.toList = ([102, 105, 110, 97, 108] : List UInt8) then (some true) else (if a0.toList = ([100, 101, 101, 112] : List UInt8) then (some true) else (if a0.toList = ([115, 104, 97, 108, 108, 111, 119] : List UInt8) then (some true) else (if a0.toList = ([101, 110, 116, 101, 114] : List UInt8) then (some true) else (if a0.toList = ([101, 120, 105, 116] : List UInt8) then (some true) else (if a0.toList = ([111, 110] : List UInt8) then (some true) else (if a0.toList = ([97, 117, 116, 111] : List UInt8) then (some true) else (if a0.toList = ([101, 110, 100] : List UInt8) then (some true) else (if a0.toList = ([105, 102] : List UInt8) then (some true) else (if a0.toList = ([103, 111] : List UInt8) then (some true) else (if a0.toList = ([105, 110, 110, 101, 114] : List UInt8) then (some true) else (if a0.toList = ([100, 111] : List UInt8) then (some true) else (if a0.toList = ([115, 101, 116] : List UInt8) then (some true) else (if a0.toList = ([114, 97, 105, 115, 101] : List UInt8) then (some true) else (if a0.toList = ([115, 101, 110, 100] : List UInt8) then (some true) else (if a0.toList = ([99, 97, 110, 99, 101, 108] : List UInt8) then (some true) else (if a0.toList = ([108, 111, 103] : List UInt8) then (some true) else (if a0.toList = ([116, 114, 117, 101] : List UInt8) then (some true) else (if a0.toList = ([102, 97, 108, 115, 101] : List UInt8) then (some true) else (if a0.toList = ([110, 111, 116] : List UInt8) then (some true) else (if a0.toList = ([97, 110, 100] : List UInt8) then (some true) else (if a0.toList = ([111, 114] : List UInt8) then (some true) else (if a0.toList = ([105, 110] : List UInt8) then (some true) else (some false)))))))))))))))))))))))))))
set_option maxHeartbeats 8000000 in
set_option maxRecDepth 100000 in
theorem tok_Means.calls (a0 : ByteArray) (r : Bool) (w : World) (h : tok_Means.f a0 = some r) :
  Calls Tryd.prog 28 #[.string a0] w fun e w' => e = .returned (.bool r) ∧ Drawn0 w w' := by
 have H : (if a0.toList = ([99, 104, 97, 114, 116] : List UInt8) then (some true) else (if a0.toList = ([118, 97, 114] : List UInt8) then (some true) else (if a0.toList = ([115, 116, 97, 116, 101] : List UInt8) then (some true) else (if a0.toList = ([112, 97, 114, 97, 108, 108, 101, 108] : List UInt8) then (some true) else (if a0.toList = ([102, 105, 110, 97, 108] : List UInt8) then (some true) else (if a0.toList = ([100, 101, 101, 112] : List UInt8) then (some true) else (if a0.toList = ([115, 104, 97, 108, 108, 111, 119] : List UInt8) then (some true) else (if a0.toList = ([101, 110, 116, 101, 114] : List UInt8) then (some true) else (if a0.toList = ([101, 120, 105, 116] : List UInt8) then (some true) else (if a0.toList = ([111, 110] : List UInt8) then (some true) else (if a0.toList = ([97, 117, 116, 111] : List UInt8) then (some true) else (if a0.toList = ([101, 110, 100] : List UInt8) then (some true) else (if a0.toList = ([105, 102] : List UInt8) then (some true) else (if a0.toList = ([103, 111] : List UInt8) then (some true) else (if a0.toList = ([105, 110, 110, 101, 114] : List UInt8) then (some true) else (if a0.toList = ([100, 111] : List UInt8) then (some true) else (if a0.toList = ([115, 101, 116] : List UInt8) then (some true) else (if a0.toList = ([114, 97, 105, 115, 101] : List UInt8) then (some true) else (if a0.toList = ([115, 101, 110, 100] : List UInt8) then (some true) else (if a0.toList = ([99, 97, 110, 99, 101, 108] : List UInt8) then (some true) else (if a0.toList = ([108, 111, 103] : List UInt8) then (some true) else (if a0.toList = ([116, 114, 117, 101] : List UInt8) then (some true) else (if a0.toList = ([102, 97, 108, 115, 101] : List UInt8) then (some true) else (if a0.toList = ([110, 111, 116] : List UInt8) then (some true) else (if a0.toList = ([97, 110, 100] : List UInt8) then (some true) else (if a0.toList = ([111, 114] : List UInt8) then (some true) else (if a0.toList = ([105, 110] : List UInt8) then (some true) else (some false)))))))))))))))))))))))))))) = some r := h
 clear h
 by_cases c2 : a0.toList = ([99, 104, 97, 114, 116] : List UInt8)
 ·rw [if_pos c2] at H
  have c2b0 := beq_iff_eq.mpr c2
  have c2b1 := bne_eq_false_iff_eq.mpr c2
  clear c2
  obtain rfl := Option.some.inj H
  go_enter Tryd.func28, Tryd.ntmps28
  go_wp2
  go_ret
  exact qN
 rw [if_neg c2] at H
 have c2b0 := beq_eq_false_iff_ne.mpr c2
 have c2b1 := bne_iff_ne.mpr c2
 by_cases c3 : a0.toList = ([118, 97, 114] : List UInt8)
 ·rw [if_pos c3] at H
  have c3b0 := beq_iff_eq.mpr c3
  have c3b1 := bne_eq_false_iff_eq.mpr c3
  clear c3
  obtain rfl := Option.some.inj H
  go_enter Tryd.func28, Tryd.ntmps28
  go_wp2
  go_ret
  exact qN
 rw [if_neg c3] at H
 have c3b0 := beq_eq_false_iff_ne.mpr c3
 have c3b1 := bne_iff_ne.mpr c3
 by_cases c4 : a0.toList = ([115, 116, 97, 116, 101] : List UInt8)
 ·rw [if_pos c4] at H
  have c4b0 := beq_iff_eq.mpr c4
  have c4b1 := bne_eq_false_iff_eq.mpr c4
  clear c4
  obtain rfl := Option.some.inj H
  go_enter Tryd.func28, Tryd.ntmps28
  go_wp2
  go_ret
  exact qN
 rw [if_neg c4] at H
 have c4b0 := beq_eq_false_iff_ne.mpr c4
 have c4b1 := bne_iff_ne.mpr c4
 by_cases c5 : a0.toList = ([112, 97, 114, 97, 108, 108, 101, 108] : List UInt8)
 ·rw [if_pos c5] at H
  have c5b0 := beq_iff_eq.mpr c5
  have c5b1 := bne_eq_false_iff_eq.mpr c5
  clear c5
  obtain rfl := Option.some.inj H
  go_enter Tryd.func28, Tryd.ntmps28
  go_wp2
  go_ret
  exact qN
 rw [if_neg c5] at H
 have c5b0 := beq_eq_false_iff_ne.mpr c5
 have c5b1 := bne_iff_ne.mpr c5
 by_cases c6 : a0.toList = ([102, 105, 110, 97, 108] : List UInt8)
 ·rw [if_pos c6] at H
  have c6b0 := beq_iff_eq.mpr c6
  have c6b1 := bne_eq_false_iff_eq.mpr c6
  clear c6
  obtain rfl := Option.some.inj H
  go_enter Tryd.func28, Tryd.ntmps28
  go_wp2
  go_ret
  exact qN
 rw [if_neg c6] at H
 have c6b0 := beq_eq_false_iff_ne.mpr c6
 have c6b1 := bne_iff_ne.mpr c6
 by_cases c7 : a0.toList = ([100, 101, 101, 112] : List UInt8)
 ·rw [if_pos c7] at H
  have c7b0 := beq_iff_eq.mpr c7
  have c7b1 := bne_eq_false_iff_eq.mpr c7
  clear c7
  obtain rfl := Option.some.inj H
  go_enter Tryd.func28, Tryd.ntmps28
  go_wp2
  go_ret
  exact qN
 rw [if_neg c7] at H
 have c7b0 := beq_eq_false_iff_ne.mpr c7
 have c7b1 := bne_iff_ne.mpr c7
 by_cases c8 : a0.toList = ([115, 104, 97, 108, 108, 111, 119] : List UInt8)
 ·rw [if_pos c8] at H
  have c8b0 := beq_iff_eq.mpr c8
  have c8b1 := bne_eq_false_iff_eq.mpr c8
  clear c8
  obtain rfl := Option.some.inj H
  go_enter Tryd.func28, Tryd.ntmps28
  go_wp2
  go_ret
  exact qN
 rw [if_neg c8] at H
 have c8b0 := beq_eq_false_iff_ne.mpr c8
 have c8b1 := bne_iff_ne.mpr c8
 by_cases c9 : a0.toList = ([101, 110, 116, 101, 114] : List UInt8)
 ·rw [if_pos c9] at H
  have c9b0 := beq_iff_eq.mpr c9
  have c9b1 := bne_eq_false_iff_eq.mpr c9
  clear c9
  obtain rfl := Option.some.inj H
  go_enter Tryd.func28, Tryd.ntmps28
  go_wp2
  go_ret
  exact qN
 rw [if_neg c9] at H
 have c9b0 := beq_eq_false_iff_ne.mpr c9
 have c9b1 := bne_iff_ne.mpr c9
 by_cases c10 : a0.toList = ([101, 120, 105, 116] : List UInt8)
 ·rw [if_pos c10] at H
  have c10b0 := beq_iff_eq.mpr c10
  have c10b1 := bne_eq_false_iff_eq.mpr c10
  clear c10
  obtain rfl := Option.some.inj H
  go_enter Tryd.func28, Tryd.ntmps28
  go_wp2
  go_ret
  exact qN
 rw [if_neg c10] at H
 have c10b0 := beq_eq_false_iff_ne.mpr c10
 have c10b1 := bne_iff_ne.mpr c10
 by_cases c11 : a0.toList = ([111, 110] : List UInt8)
 ·rw [if_pos c11] at H
  have c11b0 := beq_iff_eq.mpr c11
  have c11b1 := bne_eq_false_iff_eq.mpr c11
  clear c11
  obtain rfl := Option.some.inj H
  go_enter Tryd.func28, Tryd.ntmps28
  go_wp2
  go_ret
  exact qN
 rw [if_neg c11] at H
 have c11b0 := beq_eq_false_iff_ne.mpr c11
 have c11b1 := bne_iff_ne.mpr c11
 by_cases c12 : a0.toList = ([97, 117, 116, 111] : List UInt8)
 ·rw [if_pos c12] at H
  have c12b0 := beq_iff_eq.mpr c12
  have c12b1 := bne_eq_false_iff_eq.mpr c12
  clear c12
  obtain rfl := Option.some.inj H
  go_enter Tryd.func28, Tryd.ntmps28
  go_wp2
  go_ret
  exact qN
 rw [if_neg c12] at H
 have c12b0 := beq_eq_false_iff_ne.mpr c12
 have c12b1 := bne_iff_ne.mpr c12
 by_cases c13 : a0.toList = ([101, 110, 100] : List UInt8)
 ·rw [if_pos c13] at H
  have c13b0 := beq_iff_eq.mpr c13
  have c13b1 := bne_eq_false_iff_eq.mpr c13
  clear c13
  obtain rfl := Option.some.inj H
  go_enter Tryd.func28, Tryd.ntmps28
  go_wp2
  go_ret
  exact qN
 rw [if_neg c13] at H
 have c13b0 := beq_eq_false_iff_ne.mpr c13
 have c13b1 := bne_iff_ne.mpr c13
 by_cases c14 : a0.toList = ([105, 102] : List UInt8)
 ·rw [if_pos c14] at H
  have c14b0 := beq_iff_eq.mpr c14
  have c14b1 := bne_eq_false_iff_eq.mpr c14
  clear c14
  obtain rfl := Option.some.inj H
  go_enter Tryd.func28, Tryd.ntmps28
  go_wp2
  go_ret
  exact qN
 rw [if_neg c14] at H
 have c14b0 := beq_eq_false_iff_ne.mpr c14
 have c14b1 := bne_iff_ne.mpr c14
 by_cases c15 : a0.toList = ([103, 111] : List UInt8)
 ·rw [if_pos c15] at H
  have c15b0 := beq_iff_eq.mpr c15
  have c15b1 := bne_eq_false_iff_eq.mpr c15
  clear c15
  obtain rfl := Option.some.inj H
  go_enter Tryd.func28, Tryd.ntmps28
  go_wp2
  go_ret
  exact qN
 rw [if_neg c15] at H
 have c15b0 := beq_eq_false_iff_ne.mpr c15
 have c15b1 := bne_iff_ne.mpr c15
 by_cases c16 : a0.toList = ([105, 110, 110, 101, 114] : List UInt8)
 ·rw [if_pos c16] at H
  have c16b0 := beq_iff_eq.mpr c16
  have c16b1 := bne_eq_false_iff_eq.mpr c16
  clear c16
  obtain rfl := Option.some.inj H
  go_enter Tryd.func28, Tryd.ntmps28
  go_wp2
  go_ret
  exact qN
 rw [if_neg c16] at H
 have c16b0 := beq_eq_false_iff_ne.mpr c16
 have c16b1 := bne_iff_ne.mpr c16
 by_cases c17 : a0.toList = ([100, 111] : List UInt8)
 ·rw [if_pos c17] at H
  have c17b0 := beq_iff_eq.mpr c17
  have c17b1 := bne_eq_false_iff_eq.mpr c17
  clear c17
  obtain rfl := Option.some.inj H
  go_enter Tryd.func28, Tryd.ntmps28
  go_wp2
  go_ret
  exact qN
 rw [if_neg c17] at H
 have c17b0 := beq_eq_false_iff_ne.mpr c17
 have c17b1 := bne_iff_ne.mpr c17
 by_cases c18 : a0.toList = ([115, 101, 116] : List UInt8)
 ·rw [if_pos c18] at H
  have c18b0 := beq_iff_eq.mpr c18
  have c18b1 := bne_eq_false_iff_eq.mpr c18
  clear c18
  obtain rfl := Option.some.inj H
  go_enter Tryd.func28, Tryd.ntmps28
  go_wp2
  go_ret
  exact qN
 rw [if_neg c18] at H
 have c18b0 := beq_eq_false_iff_ne.mpr c18
 have c18b1 := bne_iff_ne.mpr c18
 by_cases c19 : a0.toList = ([114, 97, 105, 115, 101] : List UInt8)
 ·rw [if_pos c19] at H
  have c19b0 := beq_iff_eq.mpr c19
  have c19b1 := bne_eq_false_iff_eq.mpr c19
  clear c19
  obtain rfl := Option.some.inj H
  go_enter Tryd.func28, Tryd.ntmps28
  go_wp2
  go_ret
  exact qN
 rw [if_neg c19] at H
 have c19b0 := beq_eq_false_iff_ne.mpr c19
 have c19b1 := bne_iff_ne.mpr c19
 by_cases c20 : a0.toList = ([115, 101, 110, 100] : List UInt8)
 ·rw [if_pos c20] at H
  have c20b0 := beq_iff_eq.mpr c20
  have c20b1 := bne_eq_false_iff_eq.mpr c20
  clear c20
  obtain rfl := Option.some.inj H
  go_enter Tryd.func28, Tryd.ntmps28
  go_wp2
  go_ret
  exact qN
 rw [if_neg c20] at H
 have c20b0 := beq_eq_false_iff_ne.mpr c20
 have c20b1 := bne_iff_ne.mpr c20
 by_cases c21 : a0.toList = ([99, 97, 110, 99, 101, 108] : List UInt8)
 ·rw [if_pos c21] at H
  have c21b0 := beq_iff_eq.mpr c21
  have c21b1 := bne_eq_false_iff_eq.mpr c21
  clear c21
  obtain rfl := Option.some.inj H
  go_enter Tryd.func28, Tryd.ntmps28
  go_wp2
  go_ret
  exact qN
 rw [if_neg c21] at H
 have c21b0 := beq_eq_false_iff_ne.mpr c21
 have c21b1 := bne_iff_ne.mpr c21
 by_cases c22 : a0.toList = ([108, 111, 103] : List UInt8)
 ·rw [if_pos c22] at H
  have c22b0 := beq_iff_eq.mpr c22
  have c22b1 := bne_eq_false_iff_eq.mpr c22
  clear c22
  obtain rfl := Option.some.inj H
  go_enter Tryd.func28, Tryd.ntmps28
  go_wp2
  go_ret
  exact qN
 rw [if_neg c22] at H
 have c22b0 := beq_eq_false_iff_ne.mpr c22
 have c22b1 := bne_iff_ne.mpr c22
 by_cases c23 : a0.toList = ([116, 114, 117, 101] : List UInt8)
 ·rw [if_pos c23] at H
  have c23b0 := beq_iff_eq.mpr c23
  have c23b1 := bne_eq_false_iff_eq.mpr c23
  clear c23
  obtain rfl := Option.some.inj H
  go_enter Tryd.func28, Tryd.ntmps28
  go_wp2
  go_ret
  exact qN
 rw [if_neg c23] at H
 have c23b0 := beq_eq_false_iff_ne.mpr c23
 have c23b1 := bne_iff_ne.mpr c23
 by_cases c24 : a0.toList = ([102, 97, 108, 115, 101] : List UInt8)
 ·rw [if_pos c24] at H
  have c24b0 := beq_iff_eq.mpr c24
  have c24b1 := bne_eq_false_iff_eq.mpr c24
  clear c24
  obtain rfl := Option.some.inj H
  go_enter Tryd.func28, Tryd.ntmps28
  go_wp2
  go_ret
  exact qN
 rw [if_neg c24] at H
 have c24b0 := beq_eq_false_iff_ne.mpr c24
 have c24b1 := bne_iff_ne.mpr c24
 by_cases c25 : a0.toList = ([110, 111, 116] : List UInt8)
 ·rw [if_pos c25] at H
  have c25b0 := beq_iff_eq.mpr c25
  have c25b1 := bne_eq_false_iff_eq.mpr c25
  clear c25
  obtain rfl := Option.some.inj H
  go_enter Tryd.func28, Tryd.ntmps28
  go_wp2
  go_ret
  exact qN
 rw [if_neg c25] at H
 have c25b0 := beq_eq_false_iff_ne.mpr c25
 have c25b1 := bne_iff_ne.mpr c25
 by_cases c26 : a0.toList = ([97, 110, 100] : List UInt8)
 ·rw [if_pos c26] at H
  have c26b0 := beq_iff_eq.mpr c26
  have c26b1 := bne_eq_false_iff_eq.mpr c26
  clear c26
  obtain rfl := Option.some.inj H
  go_enter Tryd.func28, Tryd.ntmps28
  go_wp2
  go_ret
  exact qN
 rw [if_neg c26] at H
 have c26b0 := beq_eq_false_iff_ne.mpr c26
 have c26b1 := bne_iff_ne.mpr c26
 by_cases c27 : a0.toList = ([111, 114] : List UInt8)
 ·rw [if_pos c27] at H
  have c27b0 := beq_iff_eq.mpr c27
  have c27b1 := bne_eq_false_iff_eq.mpr c27
  clear c27
  obtain rfl := Option.some.inj H
  go_enter Tryd.func28, Tryd.ntmps28
  go_wp2
  go_ret
  exact qN
 rw [if_neg c27] at H
 have c27b0 := beq_eq_false_iff_ne.mpr c27
 have c27b1 := bne_iff_ne.mpr c27
 by_cases c28 : a0.toList = ([105, 110] : List UInt8)
 ·rw [if_pos c28] at H
  have c28b0 := beq_iff_eq.mpr c28
  have c28b1 := bne_eq_false_iff_eq.mpr c28
  clear c28
  obtain rfl := Option.some.inj H
  go_enter Tryd.func28, Tryd.ntmps28
  go_wp2
  go_ret
  exact qN
 rw [if_neg c28] at H
 have c28b0 := beq_eq_false_iff_ne.mpr c28
 have c28b1 := bne_iff_ne.mpr c28
 obtain rfl := Option.some.inj H
 go_enter Tryd.func28, Tryd.ntmps28
 go_wp2
 go_ret
 exact qN
def whirligigref02_Means.l0 : Nat → ByteArray → ByteArray → Int → Option (Bool)
 | 0, _, _, _ => none
 | k + 1, x0, x3, x4 => if (wrap64 ((wrap64 (x4 + (x0.size : Int))) + 2)) ≤ (x3.size : Int) then (if 0 ≤ x4 then (if x4 ≤ (wrap64 ((wrap64 (x4 + (x0.size : Int))) + 2)) then (if 1 + x0.size ≤ 9223372036854775807 then (if (1 + x0.size) + 1 ≤ 9223372036854775807 then (if (x3.extract (x4 : Int).toNat ((wrap64 ((wrap64 (x4 + (x0.size : Int))) + 2)) : Int).toNat).toList = (((⟨#[32]⟩ : ByteArray) ++ x0) ++ (⟨#[32]⟩ : ByteArray)).toList then (if x0.toList = ([] : List UInt8) then (some false) else ((whirligigref02_word.f k x0 0).bind fun t276 => (some (t276 == (x0.size : Int))))) else (whirligigref02_Means.l0 k x0 x3 (wrap64 (x4 + 1)))) else (none)) else (none)) else (none)) else (none)) else (some false)
def whirligigref02_Means.f (k : Nat) (a0 : ByteArray) : Option (Bool) := whirligigref02_Means.l0 k a0 (⟨#[32, 99, 104, 97, 114, 116, 32, 118, 97, 114, 32, 115, 116, 97, 116, 101, 32, 112, 97, 114, 97, 108, 108, 101, 108, 32, 102, 105, 110, 97, 108, 32, 100, 101, 101, 112, 32, 115, 104, 97, 108, 108, 111, 119, 32, 101, 110, 116, 101, 114, 32, 101, 120, 105, 116, 32, 111, 110, 32, 97, 117, 116, 111, 32, 101, 110, 100, 32, 105, 102, 32, 103, 111, 32, 105, 110, 110, 101, 114, 32, 100, 111, 32, 115, 101, 116, 32, 114, 97, 105, 115, 101, 32, 115, 101, 110, 100, 32, 99, 97, 110, 99, 101, 108, 32, 108, 111, 103, 32, 116, 114, 117, 101, 32, 102, 97, 108, 115, 101, 32, 110, 111, 116, 32, 97, 110, 100, 32, 111, 114, 32, 105, 110, 32]⟩ : ByteArray) 0
set_option maxHeartbeats 8000000 in
set_option maxRecDepth 100000 in
theorem whirligigref02_Means.calls (k : Nat) (a0 : ByteArray) (r : Bool) (w : World) (h : whirligigref02_Means.f k a0 = some r) :
  Calls Tryd.prog 29 #[.string a0] w fun e w' => e = .returned (.bool r) ∧ Drawn0 w w' := by
 have H : (whirligigref02_Means.l0 k a0 (⟨#[32, 99, 104, 97, 114, 116, 32, 118, 97, 114, 32, 115, 116, 97, 116, 101, 32, 112, 97, 114, 97, 108, 108, 101, 108, 32, 102, 105, 110, 97, 108, 32, 100, 101, 101, 112, 32, 115, 104, 97, 108, 108, 111, 119, 32, 101, 110, 116, 101, 114, 32, 101, 120, 105, 116, 32, 111, 110, 32, 97, 117, 116, 111, 32, 101, 110, 100, 32, 105, 102, 32, 103, 111, 32, 105, 110, 110, 101, 114, 32, 100, 111, 32, 115, 101, 116, 32, 114, 97, 105, 115, 101, 32, 115, 101, 110, 100, 32, 99, 97, 110, 99, 101, 108, 32, 108, 111, 103, 32, 116, 114, 117, 101, 32, 102, 97, 108, 115, 101, 32, 110, 111, 116, 32, 97, 110, 100, 32, 111, 114, 32, 105, 110, 32]⟩ : ByteArray) 0) = some r := h
 clear h
 have H' := Aside0.mk H
 clear H
 go_enter Tryd.func29, Tryd.ntmps29
 go_wp2
 go_loopg [4] k (fun kq v4 w' => ∃ (x4_1 : Int), v4 = .int .i64 x4_1 ∧ Aside0 (whirligigref02_Means.l0 kq a0 (⟨#[32, 99, 104, 97, 114, 116, 32, 118, 97, 114, 32, 115, 116, 97, 116, 101, 32, 112, 97, 114, 97, 108, 108, 101, 108, 32, 102, 105, 110, 97, 108, 32, 100, 101, 101, 112, 32, 115, 104, 97, 108, 108, 111, 119, 32, 101, 110, 116, 101, 114, 32, 101, 120, 105, 116, 32, 111, 110, 32, 97, 117, 116, 111, 32, 101, 110, 100, 32, 105, 102, 32, 103, 111, 32, 105, 110, 110, 101, 114, 32, 100, 111, 32, 115, 101, 116, 32, 114, 97, 105, 115, 101, 32, 115, 101, 110, 100, 32, 99, 97, 110, 99, 101, 108, 32, 108, 111, 103, 32, 116, 114, 117, 101, 32, 102, 97, 108, 115, 101, 32, 110, 111, 116, 32, 97, 110, 100, 32, 111, 114, 32, 105, 110, 32]⟩ : ByteArray) x4_1 = some r) ∧ Aside0 (kq ≤ k) ∧ Drawn0 w w')
 case atStart => exact ⟨(0), qE, H', ⟨Nat.le_refl _⟩, by repeat (first | exact Drawn0.refl _ | apply Drawn0.step)⟩
 case round =>
  clear H'
  obtain ⟨x4_1, rfl, HA, HK1, ⟨m1, rfl⟩⟩ := hrel
  cases gk with
  | zero => exact absurd HA.out (by simp [whirligigref02_Means.l0])
  | succ k1 =>
   have H := HA.out
   clear HA
   simp only [whirligigref02_Means.l0] at H
   by_cases c2 : (wrap64 ((wrap64 (x4_1 + (a0.size : Int))) + 2)) ≤ ((⟨#[32, 99, 104, 97, 114, 116, 32, 118, 97, 114, 32, 115, 116, 97, 116, 101, 32, 112, 97, 114, 97, 108, 108, 101, 108, 32, 102, 105, 110, 97, 108, 32, 100, 101, 101, 112, 32, 115, 104, 97, 108, 108, 111, 119, 32, 101, 110, 116, 101, 114, 32, 101, 120, 105, 116, 32, 111, 110, 32, 97, 117, 116, 111, 32, 101, 110, 100, 32, 105, 102, 32, 103, 111, 32, 105, 110, 110, 101, 114, 32, 100, 111, 32, 115, 101, 116, 32, 114, 97, 105, 115, 101, 32, 115, 101, 110, 100, 32, 99, 97, 110, 99, 101, 108, 32, 108, 111, 103, 32, 116, 114, 117, 101, 32, 102, 97, 108, 115, 101, 32, 110, 111, 116, 32, 97, 110, 100, 32, 111, 114, 32, 105, 110, 32]⟩ : ByteArray).size : Int)
   ·rw [if_pos c2] at H
    have c2b0 := decide_eq_true c2
    have c2b0z : decide ((wrap64 ((wrap64 (x4_1 + (a0.size : Int))) + 2)) ≤ 134) = true := c2b0
    clear c2
    by_cases c3 : 0 ≤ x4_1
    ·rw [if_pos c3] at H; have c3b0 := eq_true c3; have c3b1 := decide_eq_true c3; clear c3
     by_cases c4 : x4_1 ≤ (wrap64 ((wrap64 (x4_1 + (a0.size : Int))) + 2))
     ·rw [if_pos c4] at H; have c4b0 := eq_true c4; have c4b1 := decide_eq_true c4; have c5b0 := eq_true (qD : (wrap64 ((wrap64 (x4_1 + (a0.size : Int))) + 2)) ≤ ((⟨#[32, 99, 104, 97, 114, 116, 32, 118, 97, 114, 32, 115, 116, 97, 116, 101, 32, 112, 97, 114, 97, 108, 108, 101, 108, 32, 102, 105, 110, 97, 108, 32, 100, 101, 101, 112, 32, 115, 104, 97, 108, 108, 111, 119, 32, 101, 110, 116, 101, 114, 32, 101, 120, 105, 116, 32, 111, 110, 32, 97, 117, 116, 111, 32, 101, 110, 100, 32, 105, 102, 32, 103, 111, 32, 105, 110, 110, 101, 114, 32, 100, 111, 32, 115, 101, 116, 32, 114, 97, 105, 115, 101, 32, 115, 101, 110, 100, 32, 99, 97, 110, 99, 101, 108, 32, 108, 111, 103, 32, 116, 114, 117, 101, 32, 102, 97, 108, 115, 101, 32, 110, 111, 116, 32, 97, 110, 100, 32, 111, 114, 32, 105, 110, 32]⟩ : ByteArray).size : Int)); have c5b0z : ((wrap64 ((wrap64 (x4_1 + (a0.size : Int))) + 2)) ≤ (134 : Int)) = True := c5b0
      by_cases c6 : 1 + a0.size ≤ 9223372036854775807
      ·rw [if_pos c6] at H; have c6b0 := eq_true c6; have c6b1 := decide_eq_true c6
       try have c6b2 : (9223372036854775807 < 1 + a0.size) = False := eq_false (Nat.not_lt.2 c6)
       by_cases c7 : (1 + a0.size) + 1 ≤ 9223372036854775807
       ·rw [if_pos c7] at H; have c7b0 := eq_true c7; have c7b1 := decide_eq_true c7
        try have c7b2 : (9223372036854775807 < (1 + a0.size) + 1) = False := eq_false (Nat.not_lt.2 c7)
        by_cases c8 : ((⟨#[32, 99, 104, 97, 114, 116, 32, 118, 97, 114, 32, 115, 116, 97, 116, 101, 32, 112, 97, 114, 97, 108, 108, 101, 108, 32, 102, 105, 110, 97, 108, 32, 100, 101, 101, 112, 32, 115, 104, 97, 108, 108, 111, 119, 32, 101, 110, 116, 101, 114, 32, 101, 120, 105, 116, 32, 111, 110, 32, 97, 117, 116, 111, 32, 101, 110, 100, 32, 105, 102, 32, 103, 111, 32, 105, 110, 110, 101, 114, 32, 100, 111, 32, 115, 101, 116, 32, 114, 97, 105, 115, 101, 32, 115, 101, 110, 100, 32, 99, 97, 110, 99, 101, 108, 32, 108, 111, 103, 32, 116, 114, 117, 101, 32, 102, 97, 108, 115, 101, 32, 110, 111, 116, 32, 97, 110, 100, 32, 111, 114, 32, 105, 110, 32]⟩ : ByteArray).extract (x4_1 : Int).toNat ((wrap64 ((wrap64 (x4_1 + (a0.size : Int))) + 2)) : Int).toNat).toList = (((⟨#[32]⟩ : ByteArray) ++ a0) ++ (⟨#[32]⟩ : ByteArray)).toList
        ·rw [if_pos c8] at H; have c8b0 := beq_iff_eq.mpr c8; have c8b1 := bne_eq_false_iff_eq.mpr c8; clear c8
         by_cases c9 : a0.toList = ([] : List UInt8)
         ·rw [if_pos c9] at H; have c9b0 := beq_iff_eq.mpr c9; have c9b1 := bne_eq_false_iff_eq.mpr c9; clear c9; obtain rfl := Option.some.inj H
          go_wp2
          go_ret; exact qN
         rw [if_neg c9] at H; have c9b0 := beq_eq_false_iff_ne.mpr c9; have c9b1 := bne_iff_ne.mpr c9; replace H := Option.bind_eq_some_iff.mp H; obtain ⟨t276, A100, H⟩ := H; (try dsimp -simprocs only at H); have A10 := Aside0.mk A100; clear A100; obtain rfl := Option.some.inj H
         go_wp2_with (first | (go_at_call 71; (with_reducible refine (whirligigref02_word.calls k1 a0 0 t276 _ A10.out).mono ?_); rintro e w' ⟨rfl, ⟨nd, rfl⟩⟩))
         go_ret; exact qN
        rw [if_neg c8] at H; have c8b0 := beq_eq_false_iff_ne.mpr c8; have c8b1 := bne_iff_ne.mpr c8; have H' := Aside0.mk H; clear H
        go_wp2
        go_roundg k1
        case measure => have := HK1.out; omega
        case rel => exact ⟨(wrap64 (x4_1 + 1)), qE, H', ⟨by have := HK1.out; omega⟩, by repeat (first | exact Drawn0.refl _ | apply Drawn0.step)⟩
       rw [if_neg c7] at H; exact absurd H (by simp)
      rw [if_neg c6] at H; exact absurd H (by simp)
     rw [if_neg c4] at H; exact absurd H (by simp)
    rw [if_neg c3] at H
    exact absurd H (by simp)
   rw [if_neg c2] at H
   have c2b0 := decide_eq_false c2
   have c2b0z : decide ((wrap64 ((wrap64 (x4_1 + (a0.size : Int))) + 2)) ≤ 134) = false := c2b0
   clear c2
   obtain rfl := Option.some.inj H
   go_wp2
   go_ret
   exact qN
end Go.Proofs.YtbngfhlciebeeaaDoor.L
end
