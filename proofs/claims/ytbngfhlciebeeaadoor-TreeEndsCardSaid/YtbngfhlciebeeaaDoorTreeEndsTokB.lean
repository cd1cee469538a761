/- Printed and hand-written steps towards the row (TreeEnds), those that it reaches. -/
import Derived.Test.YtbngfhlciebeeaaDoorTreeEndsG13
namespace Go.Proofs.YtbngfhlciebeeaaDoor.Sp
set_option linter.unusedVariables false
set_option linter.unusedSimpArgs false
open Go.RowKit Go.Proofs.YtbngfhlciebeeaaDoor.L Go.Proofs.YtbngfhlciebeeaaDoorW.PrintWords
theorem cut_pend (p : UInt8 → Bool) (L : List UInt8) (i : Nat) : cut L i (pend p L i) = (L.drop i).takeWhile p := by
  unfold cut pend
  rw [List.drop_take, Nat.add_sub_cancel_left]
  exact (List.prefix_iff_eq_take.1 (List.takeWhile_prefix p)).symm
theorem cut_append {L : List UInt8} {i j k : Nat} (h1 : i ≤ j) (h2 : j ≤ k) : cut L i j ++ cut L j k = cut L i k := by
  unfold cut
  rw [List.drop_take, List.drop_take, List.drop_take]
  have e : L.drop j = (L.drop i).drop (j - i) := by rw [List.drop_drop]; congr 1; omega
  rw [e, show k - i = (j - i) + (k - j) from by omega, List.take_add]
theorem cut_one {L : List UInt8} {i : Nat} (h : i < L.length) : cut L i (i + 1) = [L.getD i 0] := by
  unfold cut
  rw [List.drop_take, show i + 1 - i = 1 from by omega, drop_at h]; rfl
theorem cut_dot {L : List UInt8} {i e e' : Nat} (h0 : i ≤ e) (h1 : e < L.length) (h2 : e + 1 ≤ e') (hd : (L.getD e 0).toNat = 46) : cut L i e ++ ([46] ++ cut L (e + 1) e') = cut L i e' := by
  have : L.getD e 0 = 46 := UInt8.toNat_inj.1 hd
  rw [show ([46] : List UInt8) = cut L e (e + 1) from by rw [cut_one h1, this], cut_append (by omega) h2, cut_append h0 (by omega)]
theorem ext_dot {s : ByteArray} {i e e' : Nat} (h0 : i ≤ e) (h1 : e < s.size) (h2 : e + 1 ≤ e') (hd : (s.data.toList.getD e 0).toNat = 46) : s.extract i e ++ ((⟨#[46]⟩ : ByteArray) ++ s.extract (e + 1) e') = s.extract i e' := by
  have hl := len_size s
  rw [ext_list, ext_list, ext_list, show (⟨#[46]⟩ : ByteArray) = ⟨([46] : List UInt8).toArray⟩ from rfl, mk_append, mk_append, cut_dot h0 (by omega) h2 hd]
theorem ext_size {s : ByteArray} {i e : Nat} (h : e ≤ s.size) : (s.extract i e).size = e - i := by
  have hl := len_size s
  rw [ext_list, size_mk, cut_length (by omega)]
theorem ext_data (s : ByteArray) (i e : Nat) : (s.extract i e).data.toList = cut s.data.toList i e := by rw [ext_list]
theorem path_l (s : ByteArray) (hs : s.size ≤ 140737488351232) (i : Nat) (a : Int) : ∀ (f e : Nat) (kd : Int), i ≤ e → e ≤ s.size → s.size - e < f →
    ∃ r, Ev (fun k => tok_reader_path.l0 k s (e : Int) kd (s.extract i e) 0 a) r ∧
      match pathGo s.data.toList f e kd with
      | none => r.2.2.2.2.1 = 15
      | some (k', e') => r = (k', s.extract i e', 0, a, (if e' - i > 32 then 15 else 0), s, (e' : Int))
  | 0, e, kd, h0, h1, h2 => by omega
  | f + 1, e, kd, h0, h1, h2 => by
    have hl := len_size s
    have hend : ∀ k', tok_reader_path.j1 (k' + 1) false s (e : Int) kd (s.extract i e) 0 a = some (kd, s.extract i e, 0, a, (if e - i > 32 then 15 else 0), s, (e : Int)) := fun k' => by
      simp only [tok_reader_path.j1]
      rw [if_neg (by decide), ext_size h1]
      by_cases h : e - i > 32
      · rw [if_pos (by omega), if_pos h]
      · rw [if_neg (by omega), if_neg h]
    by_cases hc : e + 1 < s.data.toList.length ∧ (s.data.toList.getD e 0).toNat = 46 ∧ smallB (s.data.toList.getD (e + 1) 0) = true
    · obtain ⟨hc1, hc2, hc3⟩ := hc
      have hp := le_pend innerB s.data.toList (e + 1)
      have hq := pend_le (p := innerB) (L := s.data.toList) (i := e + 1) (by omega)
      simp only [pathGo]
      rw [if_pos ⟨hc1, hc2, hc3⟩]
      have hgo : ∀ r, Ev (fun k => if ((s.extract (e + 1) (pend innerB s.data.toList (e + 1))).size : Int) > 16 then some (2, s.extract i e ++ ((⟨#[46]⟩ : ByteArray) ++ s.extract (e + 1) (pend innerB s.data.toList (e + 1))), 0, a, 15, s, ((pend innerB s.data.toList (e + 1) : Nat) : Int)) else tok_reader_path.l0 k s ((pend innerB s.data.toList (e + 1) : Nat) : Int) 2 (s.extract i e ++ ((⟨#[46]⟩ : ByteArray) ++ s.extract (e + 1) (pend innerB s.data.toList (e + 1)))) 0 a) r →
          Ev (fun k => tok_reader_path.l0 k s (e : Int) kd (s.extract i e) 0 a) r := fun r hr => by
        refine Ev.succ ?_
        simp only [tok_reader_path.l0]
        rw [wrap_at (by omega) (by omega)]
        refine Ev.pos (by omega) (Ev.pos (by omega) (Ev.pos (by omega) ?_))
        rw [bt_nat s e (by omega)]
        refine Ev.pos (by omega) (Ev.pos (by omega) ?_)
        rw [show ((e : Int) + 1) = ((e + 1 : Nat) : Int) from by omega, bt_nat s (e + 1) (by omega)]
        refine Ev.bind_some (small_ev _) ?_
        rw [hc3]
        refine Ev.succ ?_
        simp only [tok_reader_path.j1]
        refine Ev.pos trivial ?_
        rw [wrap_at (by omega) (by omega), show ((e : Int) + 1) = ((e + 1 : Nat) : Int) from by omega]
        refine Ev.bind (word_ev s hs (e + 1) (by omega)) ?_
        refine Ev.pos (by rw [ext_size (by omega)]; omega) (Ev.pos ?_ hr)
        rw [ByteArray.size_append, ext_size (by omega), ext_size (by omega)]
        show _ + (1 + _) ≤ _
        omega
      by_cases hw : pend innerB s.data.toList (e + 1) - (e + 1) > 16
      · rw [if_pos hw]
        exact ⟨_, hgo _ (Ev.pos (by rw [ext_size (by omega)]; omega) (Ev.some rfl)), rfl⟩
      · rw [if_neg hw]
        obtain ⟨r, hr, h⟩ := path_l s hs i a f (pend innerB s.data.toList (e + 1)) 2 (by omega) (by omega) (by omega)
        refine ⟨r, hgo r (Ev.neg (by rw [ext_size (by omega)]; omega) ?_), h⟩
        rw [ext_dot h0 (by omega) (by omega) hc2]
        exact hr
    · simp only [pathGo]
      rw [if_neg hc]
      refine ⟨_, ?_, rfl⟩
      refine Ev.succ ?_
      simp only [tok_reader_path.l0]
      rw [wrap_at (by omega) (by omega)]
      by_cases h3 : e + 1 < s.size
      · refine Ev.pos (by omega) (Ev.pos (by omega) (Ev.pos (by omega) ?_))
        rw [bt_nat s e (by omega)]
        by_cases h4 : (s.data.toList.getD e 0).toNat = 46
        · refine Ev.pos (by omega) (Ev.pos (by omega) ?_)
          rw [show ((e : Int) + 1) = ((e + 1 : Nat) : Int) from by omega, bt_nat s (e + 1) (by omega)]
          refine Ev.bind_some (small_ev _) ?_
          have h5 : smallB (s.data.toList.getD (e + 1) 0) = false := by
            cases hb : smallB (s.data.toList.getD (e + 1) 0)
            · rfl
            · exact absurd ⟨by omega, h4, hb⟩ hc
          rw [h5]
          exact Ev.succ (Ev.const hend)
        · exact Ev.neg (by omega) (Ev.succ (Ev.const hend))
      · exact Ev.neg (by omega) (Ev.succ (Ev.const hend))
def TokRel (s : ByteArray) (x : Except Int (Int × List UInt8 × Int × Nat)) (r : Int × ByteArray × Int × Int × Int × ByteArray × Int) : Prop :=
  match x with
  | .error e => r.2.2.2.2.1 = e ∧ e ≠ 0
  | .ok (k, t, n, e) => ∃ a, r = (k, ⟨t.toArray⟩, n, a, 0, s, (e : Int))
theorem path_ev (s : ByteArray) (hs : s.size ≤ 140737488351232) (i : Nat) (hi : i < s.size) (hc : smallB (s.data.toList.getD i 0) = true) :
    ∃ r, Ev (fun k => tok_reader_path.f k s (i : Int)) r ∧ TokRel s (tokenAt s.data.toList i) r := by
  have hl := len_size s
  have hp := le_pend innerB s.data.toList i
  have hq := pend_le (p := innerB) (L := s.data.toList) (i := i) (by omega)
  have hgo : ∀ r, Ev (fun k => if ((s.extract i (pend innerB s.data.toList i)).size : Int) > 16 then some (1, s.extract i (pend innerB s.data.toList i), 0, ((pend innerB s.data.toList i : Nat) : Int), 15, s, ((pend innerB s.data.toList i : Nat) : Int)) else tok_reader_path.l0 k s ((pend innerB s.data.toList i : Nat) : Int) 1 (s.extract i (pend innerB s.data.toList i)) 0 ((pend innerB s.data.toList i : Nat) : Int)) r →
      Ev (fun k => tok_reader_path.f k s (i : Int)) r := fun r hr => by
    unfold tok_reader_path.f
    exact Ev.bind (word_ev s hs i (by omega)) hr
  unfold tokenAt
  rw [if_pos hc]
  by_cases hw : pend innerB s.data.toList i - i > 16
  · rw [if_pos hw]
    exact ⟨_, hgo _ (Ev.pos (by rw [ext_size (by omega)]; omega) (Ev.some rfl)), rfl, by decide⟩
  · rw [if_neg hw]
    obtain ⟨r, hr, h⟩ := path_l s hs i ((pend innerB s.data.toList i : Nat) : Int) (s.data.toList.length + 1) (pend innerB s.data.toList i) 1 hp (by omega) (by omega)
    refine ⟨r, hgo r (Ev.neg (by rw [ext_size (by omega)]; omega) hr), ?_⟩
    cases hg : pathGo s.data.toList (s.data.toList.length + 1) (pend innerB s.data.toList i) 1 with
    | none =>
      rw [hg] at h
      exact ⟨h, by decide⟩
    | some x =>
      obtain ⟨k', e'⟩ := x
      rw [hg] at h
      simp only at h ⊢
      subst h
      by_cases h3 : e' - i > 32
      · rw [if_pos h3, if_pos h3]; exact ⟨rfl, by decide⟩
      · rw [if_neg h3, if_neg h3]; exact ⟨_, by rw [ext_list]⟩
theorem number_ev (s : ByteArray) (hs : s.size ≤ 140737488351232) (i : Nat) (hi : i < s.size) (hc : smallB (s.data.toList.getD i 0) = false) (hd : isDigit (s.data.toList.getD i 0) = true) :
    ∃ r, Ev (fun k => tok_reader_number.f k s (i : Int)) r ∧ TokRel s (tokenAt s.data.toList i) r := by
  have hl := len_size s
  have hp := le_pend isDigit s.data.toList (i + 1)
  have hst := pend_step (p := isDigit) (L := s.data.toList) (i := i) (by omega) hd
  have hq := pend_le (p := isDigit) (L := s.data.toList) (i := i) (by omega)
  have hgo : ∀ r, tok_reader_number.of (s.extract i (pend isDigit s.data.toList i)) s ((pend isDigit s.data.toList i : Nat) : Int) = some r → Ev (fun k => tok_reader_number.f k s (i : Int)) r := fun r hr => by
    unfold tok_reader_number.f
    exact Ev.bind (while_digit_ev s hs i (by omega)) (Ev.const fun _ => hr)
  unfold tokenAt
  rw [if_neg (by rw [hc]; decide), if_pos hd]
  have h1 : (s.extract i (pend isDigit s.data.toList i)).size ≤ 140737488351232 ∧ (s.extract i (pend isDigit s.data.toList i)).data.toList.all isDigit = true := by
    refine ⟨by rw [ext_size (by omega)]; omega, ?_⟩
    rw [ext_data, cut_pend]
    exact List.all_takeWhile
  have h2 : (s.extract i (pend isDigit s.data.toList i)).data.toList.getD 0 0 = s.data.toList.getD i 0 := by
    rw [ext_data, cut_pend, drop_at (by omega), List.takeWhile_cons_of_pos hd]; rfl
  have h3 : (1 < (s.extract i (pend isDigit s.data.toList i)).size ∧ (s.extract i (pend isDigit s.data.toList i)).data.toList.getD 0 0 = 48) ↔ (pend isDigit s.data.toList i - i > 1 ∧ (s.data.toList.getD i 0).toNat = 48) := by
    rw [h2, ext_size (by omega)]
    exact and_congr Iff.rfl ⟨fun h => by rw [h]; rfl, fun h => UInt8.toNat_inj.1 h⟩
  unfold tok_reader_number.of at hgo
  simp only [if_pos h1] at hgo
  by_cases hz : pend isDigit s.data.toList i - i > 1 ∧ (s.data.toList.getD i 0).toNat = 48
  · rw [if_pos hz]
    rw [if_pos (h3.2 hz)] at hgo
    exact ⟨_, hgo _ rfl, rfl, by decide⟩
  · rw [if_neg hz]
    rw [if_neg (fun h => hz (h3.1 h)), ext_data] at hgo
    cases hn : numFold (cut s.data.toList i (pend isDigit s.data.toList i)) 0 with
    | none =>
      rw [hn] at hgo
      exact ⟨_, hgo _ rfl, rfl, by decide⟩
    | some n =>
      rw [hn] at hgo
      exact ⟨_, hgo _ rfl, _, by rw [ext_list]⟩
theorem quote_ev (s : ByteArray) (hs : s.size ≤ 140737488351232) (i : Nat) (hi : i < s.size) (hc : smallB (s.data.toList.getD i 0) = false) (hd : isDigit (s.data.toList.getD i 0) = false) (hq' : (s.data.toList.getD i 0).toNat = 39) :
    ∃ r, Ev (fun k => tok_reader_quote.f k s (i : Int)) r ∧ TokRel s (tokenAt s.data.toList i) r := by
  have hl := len_size s
  have hp := le_pend noQuoteB s.data.toList (i + 1)
  have hq := pend_le (p := noQuoteB) (L := s.data.toList) (i := i + 1) (by omega)
  unfold tokenAt
  rw [if_neg (by rw [hc]; decide), if_neg (by rw [hd]; decide), if_pos hq']
  have hw := while_quote_ev s hs (i + 1) (by omega)
  generalize hE : pend noQuoteB s.data.toList (i + 1) = E at *
  have hz := ext_size (s := s) (i := i + 1) (e := E) (by omega)
  have hgo : ∀ r, Ev (fun k => if ((E : Nat) : Int) = (s.size : Int) then (some (0, (⟨#[]⟩ : ByteArray), 0, 0, 14, s, ((E : Nat) : Int))) else (if ((s.extract (i + 1) E).size : Int) > 48 then (some (0, (⟨#[]⟩ : ByteArray), 0, 0, 15, s, wrap64 (((E : Nat) : Int) + 1))) else ((val_Plain.f (s.extract (i + 1) E)).bind fun t122 => (if t122 = true then (some (4, s.extract (i + 1) E, 0, 0, 0, s, wrap64 (((E : Nat) : Int) + 1))) else (some (0, (⟨#[]⟩ : ByteArray), 0, 0, 11, s, wrap64 (((E : Nat) : Int) + 1))))))) r →
      Ev (fun k => tok_reader_quote.f k s (i : Int)) r := fun r hr => by
    unfold tok_reader_quote.f
    rw [wrap_at (by omega) (by omega), show ((i : Int) + 1) = ((i + 1 : Nat) : Int) from by omega]
    exact Ev.bind hw hr
  by_cases h1 : s.data.toList.length ≤ E
  · rw [if_pos h1]
    exact ⟨_, hgo _ (Ev.pos (by omega) (Ev.some rfl)), rfl, by decide⟩
  · rw [if_neg h1]
    by_cases h2 : E - (i + 1) > 48
    · rw [if_pos h2]
      exact ⟨_, hgo _ (Ev.neg (by omega) (Ev.pos (by omega) (Ev.some rfl))), rfl, by decide⟩
    · rw [if_neg h2]
      have hpl : val_Plain.f (s.extract (i + 1) E) = some ((cut s.data.toList (i + 1) E).all val_Plain.ok) := by
        unfold val_Plain.f
        rw [if_pos (by omega), ext_data, hz, decide_eq_true (by omega), Bool.and_true]
      cases hb : (cut s.data.toList (i + 1) E).all val_Plain.ok with
      | true =>
        rw [hb] at hpl
        refine ⟨_, hgo _ (Ev.neg (by omega) (Ev.neg (by omega) (Ev.bind_some hpl (Ev.pos rfl (Ev.some rfl))))), ?_⟩
        rw [if_pos rfl]
        exact ⟨0, by rw [ext_list, wrap_at (by omega) (by omega)]; rfl⟩
      | false =>
        rw [hb] at hpl
        refine ⟨_, hgo _ (Ev.neg (by omega) (Ev.neg (by omega) (Ev.bind_some hpl (Ev.neg (by decide) (Ev.some rfl))))), ?_⟩
        rw [if_neg (by decide)]
        exact ⟨rfl, by decide⟩
theorem sign_ev (s : ByteArray) (hs : s.size ≤ 140737488351232) (i : Nat) (hi : i < s.size) (hc : smallB (s.data.toList.getD i 0) = false) (hd : isDigit (s.data.toList.getD i 0) = false) (hq' : ¬ (s.data.toList.getD i 0).toNat = 39) :
    ∃ r, tok_reader_sign.f s (i : Int) = some r ∧ TokRel s (tokenAt s.data.toList i) r := by
  unfold tokenAt
  rw [if_neg (by rw [hc]; decide), if_neg (by rw [hd]; decide), if_neg hq']
  unfold tok_reader_sign.f
  rw [if_pos ⟨by omega, by omega, by omega⟩, Int.toNat_natCast]
  cases signFind (s.data.toList.drop i) with
  | some g => exact ⟨_, rfl, 0, by simp⟩
  | none => exact ⟨_, rfl, rfl, by decide⟩
theorem token_ev (s : ByteArray) (hs : s.size ≤ 140737488351232) (i : Nat) (hi : i < s.size) :
    ∃ r, Ev (fun k => tok_reader_token.f k s (i : Int)) r ∧ TokRel s (tokenAt s.data.toList i) r := by
  unfold tok_reader_token.f
  rw [bt_nat s i hi]
  cases hc : smallB (s.data.toList.getD i 0) with
  | true =>
    obtain ⟨r, hr, h⟩ := path_ev s hs i hi hc
    exact ⟨r, Ev.pos (by omega) (Ev.pos (by omega) (Ev.bind_some (small_ev _) (Ev.pos hc (Ev.bind hr (Ev.some rfl))))), h⟩
  | false =>
    cases hd : isDigit (s.data.toList.getD i 0) with
    | true =>
      obtain ⟨r, hr, h⟩ := number_ev s hs i hi hc hd
      exact ⟨r, Ev.pos (by omega) (Ev.pos (by omega) (Ev.bind_some (small_ev _) (Ev.neg (by rw [hc]; decide) (Ev.bind_some (digit_ev _) (Ev.pos hd (Ev.bind hr (Ev.some rfl))))))), h⟩
    | false =>
      by_cases hq : (s.data.toList.getD i 0).toNat = 39
      · obtain ⟨r, hr, h⟩ := quote_ev s hs i hi hc hd hq
        exact ⟨r, Ev.pos (by omega) (Ev.pos (by omega) (Ev.bind_some (small_ev _) (Ev.neg (by rw [hc]; decide) (Ev.bind_some (digit_ev _) (Ev.neg (by rw [hd]; decide) (Ev.pos (by omega) (Ev.bind hr (Ev.some rfl)))))))), h⟩
      · obtain ⟨r, hr, h⟩ := sign_ev s hs i hi hc hd hq
        exact ⟨r, Ev.pos (by omega) (Ev.pos (by omega) (Ev.bind_some (small_ev _) (Ev.neg (by rw [hc]; decide) (Ev.bind_some (digit_ev _) (Ev.neg (by rw [hd]; decide) (Ev.neg (by omega) (Ev.bind_some hr (Ev.some rfl)))))))), h⟩
def Tk.s32 (t : Tk) : S32 := ⟨t.kind, ⟨t.text.toArray⟩, t.n, (t.pos : Int)⟩
theorem lex_l (s : ByteArray) (hs : s.size ≤ 140737488351232) : ∀ (f i : Nat) (out : List Tk), i ≤ s.size → s.size - i < f → out.length ≤ 120 →
    Ev (fun k => tok_Lex.l0 k s (i : Int) (out.map Tk.s32)) (((lexGo s.data.toList f i out).1).map Tk.s32, (lexGo s.data.toList f i out).2.1, ((lexGo s.data.toList f i out).2.2 : Int))
  | 0, i, out, hi, hf, ho => by omega
  | f + 1, i, out, hi, hf, ho => by
    have hl := len_size s
    have hp := le_pend blankB s.data.toList i
    have hq := pend_le (p := blankB) (L := s.data.toList) (i := i) (by omega)
    refine Ev.succ ?_
    simp only [tok_Lex.l0, lexGo]
    refine Ev.bind (while_blank_ev s hs i hi) ?_
    generalize pend blankB s.data.toList i = j at *
    dsimp only
    by_cases h1 : s.data.toList.length ≤ j
    · rw [if_pos h1]
      exact Ev.pos (by omega) (Ev.some (by simp))
    · rw [if_neg h1]
      refine Ev.neg (by omega) ?_
      by_cases h2 : out.length = 120
      · rw [if_pos h2]
        exact Ev.pos (by rw [List.length_map]; omega) (Ev.some (by simp))
      · rw [if_neg h2]
        refine Ev.neg (by rw [List.length_map]; omega) ?_
        obtain ⟨r, hr, h⟩ := token_ev s hs j (by omega)
        refine Ev.bind hr ?_
        cases ht : tokenAt s.data.toList j with
        | error e =>
          rw [ht] at h
          obtain ⟨h3, h4⟩ := h
          exact Ev.neg (by rw [h3]; exact h4) (Ev.some (by rw [h3]; simp))
        | ok x =>
          obtain ⟨k, t, n, e⟩ := x
          rw [ht] at h
          obtain ⟨a, rfl⟩ := h
          have hle := tokenAt_le (by omega) ht
          refine Ev.pos rfl (Ev.pos (by rw [List.length_map]; omega) ?_)
          have := lex_l s hs f e (out ++ [⟨k, t, n, j⟩]) (by omega) (by omega) (by rw [List.length_append]; simp; omega)
          rw [List.map_append] at this
          exact this
theorem Lex_ev (s : ByteArray) (hs : s.size ≤ 140737488351232) : Ev (fun k => tok_Lex.f k s) (((lex s.data.toList).1).map Tk.s32, (lex s.data.toList).2.1, ((lex s.data.toList).2.2 : Int)) := by
  have hl := len_size s
  exact lex_l s hs (s.data.toList.length + 1) 0 [] (by omega) (by omega) (by simp)
end Go.Proofs.YtbngfhlciebeeaaDoor.Sp
