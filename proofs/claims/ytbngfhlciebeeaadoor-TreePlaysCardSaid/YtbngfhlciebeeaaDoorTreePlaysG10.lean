/- Printed and hand-written steps towards the row (TreePlays), those that it reaches. -/
import Derived.Test.YtbngfhlciebeeaaDoorTreePlaysG9
import Derived.Test.YtbngfhlciebeeaaDoorTreePlaysG4
import Derived.Test.YtbngfhlciebeeaaDoorTreePlaysG5
section
namespace Go.Proofs.YtbngfhlciebeeaaDoor.Sp
set_option linter.unusedVariables false
set_option linter.unusedSimpArgs false
open Go.RowKit Go.Proofs.YtbngfhlciebeeaaDoor.L Go.Proofs.YtbngfhlciebeeaaDoorW.PrintWords
theorem cut_pend (p : UInt8 → Bool) (L : List UInt8) (i : Nat) : cut L i (pend p L i) = (L.drop i).takeWhile p := by
  unfold cut pend
  rw [List.drop_take, Nat.add_sub_cancel_left]
  exact (List.prefix_iff_eq_take.1 (List.takeWhile_prefix p)).symm
theorem cut_append {L : List UInt8} {i j k : Nat} (h1 : i ≤ j) (h2 : j ≤ k) : cut L i j ++ cut L j k = cut L i k := by
  unfold cut
  rw [List.drop_take, List.drop_take, List.drop_take]
  have e : L.drop j = (L.drop i).drop (j - i) := by rw [List.drop_drop]; congr 1; omega
  rw [e, show k - i = (j - i) + (k - j) from by omega, List.take_add]
theorem cut_one {L : List UInt8} {i : Nat} (h : i < L.length) : cut L i (i + 1) = [L.getD i 0] := by
  unfold cut
  rw [List.drop_take, show i + 1 - i = 1 from by omega, drop_at h]; rfl
theorem cut_dot {L : List UInt8} {i e e' : Nat} (h0 : i ≤ e) (h1 : e < L.length) (h2 : e + 1 ≤ e') (hd : (L.getD e 0).toNat = 46) : cut L i e ++ ([46] ++ cut L (e + 1) e') = cut L i e' := by
  have : L.getD e 0 = 46 := UInt8.toNat_inj.1 hd
  rw [show ([46] : List UInt8) = cut L e (e + 1) from by rw [cut_one h1, this], cut_append (by omega) h2, cut_append h0 (by omega)]
theorem ext_dot {s : ByteArray} {i e e' : Nat} (h0 : i ≤ e) (h1 : e < s.size) (h2 : e + 1 ≤ e') (hd : (s.data.toList.getD e 0).toNat = 46) : s.extract i e ++ ((⟨#[46]⟩ : ByteArray) ++ s.extract (e + 1) e') = s.extract i e' := by
  have hl := len_size s
  rw [ext_list, ext_list, ext_list, show (⟨#[46]⟩ : ByteArray) = ⟨([46] : List UInt8).toArray⟩ from rfl, mk_append, mk_append, cut_dot h0 (by omega) h2 hd]
theorem ext_size {s : ByteArray} {i e : Nat} (h : e ≤ s.size) : (s.extract i e).size = e - i := by
  have hl := len_size s
  rw [ext_list, size_mk, cut_length (by omega)]
theorem ext_data (s : ByteArray) (i e : Nat) : (s.extract i e).data.toList = cut s.data.toList i e := by rw [ext_list]
theorem path_l (s : ByteArray) (hs : s.size ≤ 140737488351232) (i : Nat) (a : Int) : ∀ (f e : Nat) (kd : Int), i ≤ e → e ≤ s.size → s.size - e < f →
    ∃ r, Ev (fun k => tok_reader_path.l0 k s (e : Int) kd (s.extract i e) 0 a) r ∧
      match pathGo s.data.toList f e kd with
      | none => r.2.2.2.2.1 = 15
      | some (k', e') => r = (k', s.extract i e', 0, a, (if e' - i > 32 then 15 else 0), s, (e' : Int))
  | 0, e, kd, h0, h1, h2 => by omega
  | f + 1, e, kd, h0, h1, h2 => by
    have hl := len_size s
    have hend : ∀ k', tok_reader_path.j1 (k' + 1) false s (e : Int) kd (s.extract i e) 0 a = some (kd, s.extract i e, 0, a, (if e - i > 32 then 15 else 0), s, (e : Int)) := fun k' => by
      simp only [tok_reader_path.j1]
      rw [if_neg (by decide), ext_size h1]
      by_cases h : e - i > 32
      · rw [if_pos (by omega), if_pos h]
      · rw [if_neg (by omega), if_neg h]
    by_cases hc : e + 1 < s.data.toList.length ∧ (s.data.toList.getD e 0).toNat = 46 ∧ smallB (s.data.toList.getD (e + 1) 0) = true
    · obtain ⟨hc1, hc2, hc3⟩ := hc
      have hp := le_pend innerB s.data.toList (e + 1)
      have hq := pend_le (p := innerB) (L := s.data.toList) (i := e + 1) (by omega)
      simp only [pathGo]
      rw [if_pos ⟨hc1, hc2, hc3⟩]
      have hgo : ∀ r, Ev (fun k => if ((s.extract (e + 1) (pend innerB s.data.toList (e + 1))).size : Int) > 16 then some (2, s.extract i e ++ ((⟨#[46]⟩ : ByteArray) ++ s.extract (e + 1) (pend innerB s.data.toList (e + 1))), 0, a, 15, s, ((pend innerB s.data.toList (e + 1) : Nat) : Int)) else tok_reader_path.l0 k s ((pend innerB s.data.toList (e + 1) : Nat) : Int) 2 (s.extract i e ++ ((⟨#[46]⟩ : ByteArray) ++ s.extract (e + 1) (pend innerB s.data.toList (e + 1)))) 0 a) r →
          Ev (fun k => tok_reader_path.l0 k s (e : Int) kd (s.extract i e) 0 a) r := fun r hr => by
        refine Ev.succ ?_
        simp only [tok_reader_path.l0]
        rw [wrap_at (by omega) (by omega)]
        refine Ev.pos (by omega) (Ev.pos (by omega) (Ev.pos (by omega) ?_))
        rw [bt_nat s e (by omega)]
        refine Ev.pos (by omega) (Ev.pos (by omega) ?_)
        rw [show ((e : Int) + 1) = ((e + 1 : Nat) : Int) from by omega, bt_nat s (e + 1) (by omega)]
        refine Ev.bind_some (small_ev _) ?_
        rw [hc3]
        refine Ev.succ ?_
        simp only [tok_reader_path.j1]
        refine Ev.pos trivial ?_
        rw [wrap_at (by omega) (by omega), show ((e : Int) + 1) = ((e + 1 : Nat) : Int) from by omega]
        refine Ev.bind (word_ev s hs (e + 1) (by omega)) ?_
        refine Ev.pos (by rw [ext_size (by omega)]; omega) (Ev.pos ?_ hr)
        rw [ByteArray.size_append, ext_size (by omega), ext_size (by omega)]
        show _ + (1 + _) ≤ _
        omega
      by_cases hw : pend innerB s.data.toList (e + 1) - (e + 1) > 16
      · rw [if_pos hw]
        exact ⟨_, hgo _ (Ev.pos (by rw [ext_size (by omega)]; omega) (Ev.some rfl)), rfl⟩
      · rw [if_neg hw]
        obtain ⟨r, hr, h⟩ := path_l s hs i a f (pend innerB s.data.toList (e + 1)) 2 (by omega) (by omega) (by omega)
        refine ⟨r, hgo r (Ev.neg (by rw [ext_size (by omega)]; omega) ?_), h⟩
        rw [ext_dot h0 (by omega) (by omega) hc2]
        exact hr
    · simp only [pathGo]
      rw [if_neg hc]
      refine ⟨_, ?_, rfl⟩
      refine Ev.succ ?_
      simp only [tok_reader_path.l0]
      rw [wrap_at (by omega) (by omega)]
      by_cases h3 : e + 1 < s.size
      · refine Ev.pos (by omega) (Ev.pos (by omega) (Ev.pos (by omega) ?_))
        rw [bt_nat s e (by omega)]
        by_cases h4 : (s.data.toList.getD e 0).toNat = 46
        · refine Ev.pos (by omega) (Ev.pos (by omega) ?_)
          rw [show ((e : Int) + 1) = ((e + 1 : Nat) : Int) from by omega, bt_nat s (e + 1) (by omega)]
          refine Ev.bind_some (small_ev _) ?_
          have h5 : smallB (s.data.toList.getD (e + 1) 0) = false := by
            cases hb : smallB (s.data.toList.getD (e + 1) 0)
            · rfl
            · exact absurd ⟨by omega, h4, hb⟩ hc
          rw [h5]
          exact Ev.succ (Ev.const hend)
        · exact Ev.neg (by omega) (Ev.succ (Ev.const hend))
      · exact Ev.neg (by omega) (Ev.succ (Ev.const hend))
def TokRel (s : ByteArray) (x : Except Int (Int × List UInt8 × Int × Nat)) (r : Int × ByteArray × Int × Int × Int × ByteArray × Int) : Prop :=
  match x with
  | .error e => r.2.2.2.2.1 = e ∧ e ≠ 0
  | .ok (k, t, n, e) => ∃ a, r = (k, ⟨t.toArray⟩, n, a, 0, s, (e : Int))
theorem path_ev (s : ByteArray) (hs : s.size ≤ 140737488351232) (i : Nat) (hi : i < s.size) (hc : smallB (s.data.toList.getD i 0) = true) :
    ∃ r, Ev (fun k => tok_reader_path.f k s (i : Int)) r ∧ TokRel s (tokenAt s.data.toList i) r := by
  have hl := len_size s
  have hp := le_pend innerB s.data.toList i
  have hq := pend_le (p := innerB) (L := s.data.toList) (i := i) (by omega)
  have hgo : ∀ r, Ev (fun k => if ((s.extract i (pend innerB s.data.toList i)).size : Int) > 16 then some (1, s.extract i (pend innerB s.data.toList i), 0, ((pend innerB s.data.toList i : Nat) : Int), 15, s, ((pend innerB s.data.toList i : Nat) : Int)) else tok_reader_path.l0 k s ((pend innerB s.data.toList i : Nat) : Int) 1 (s.extract i (pend innerB s.data.toList i)) 0 ((pend innerB s.data.toList i : Nat) : Int)) r →
      Ev (fun k => tok_reader_path.f k s (i : Int)) r := fun r hr => by
    unfold tok_reader_path.f
    exact Ev.bind (word_ev s hs i (by omega)) hr
  unfold tokenAt
  rw [if_pos hc]
  by_cases hw : pend innerB s.data.toList i - i > 16
  · rw [if_pos hw]
    exact ⟨_, hgo _ (Ev.pos (by rw [ext_size (by omega)]; omega) (Ev.some rfl)), rfl, by decide⟩
  · rw [if_neg hw]
    obtain ⟨r, hr, h⟩ := path_l s hs i ((pend innerB s.data.toList i : Nat) : Int) (s.data.toList.length + 1) (pend innerB s.data.toList i) 1 hp (by omega) (by omega)
    refine ⟨r, hgo r (Ev.neg (by rw [ext_size (by omega)]; omega) hr), ?_⟩
    cases hg : pathGo s.data.toList (s.data.toList.length + 1) (pend innerB s.data.toList i) 1 with
    | none =>
      rw [hg] at h
      exact ⟨h, by decide⟩
    | some x =>
      obtain ⟨k', e'⟩ := x
      rw [hg] at h
      simp only at h ⊢
      subst h
      by_cases h3 : e' - i > 32
      · rw [if_pos h3, if_pos h3]; exact ⟨rfl, by decide⟩
      · rw [if_neg h3, if_neg h3]; exact ⟨_, by rw [ext_list]⟩
theorem number_ev (s : ByteArray) (hs : s.size ≤ 140737488351232) (i : Nat) (hi : i < s.size) (hc : smallB (s.data.toList.getD i 0) = false) (hd : isDigit (s.data.toList.getD i 0) = true) :
    ∃ r, Ev (fun k => tok_reader_number.f k s (i : Int)) r ∧ TokRel s (tokenAt s.data.toList i) r := by
  have hl := len_size s
  have hp := le_pend isDigit s.data.toList (i + 1)
  have hst := pend_step (p := isDigit) (L := s.data.toList) (i := i) (by omega) hd
  have hq := pend_le (p := isDigit) (L := s.data.toList) (i := i) (by omega)
  have hgo : ∀ r, tok_reader_number.of (s.extract i (pend isDigit s.data.toList i)) s ((pend isDigit s.data.toList i : Nat) : Int) = some r → Ev (fun k => tok_reader_number.f k s (i : Int)) r := fun r hr => by
    unfold tok_reader_number.f
    exact Ev.bind (while_digit_ev s hs i (by omega)) (Ev.const fun _ => hr)
  unfold tokenAt
  rw [if_neg (by rw [hc]; decide), if_pos hd]
  have h1 : (s.extract i (pend isDigit s.data.toList i)).size ≤ 140737488351232 ∧ (s.extract i (pend isDigit s.data.toList i)).data.toList.all isDigit = true := by
    refine ⟨by rw [ext_size (by omega)]; omega, ?_⟩
    rw [ext_data, cut_pend]
    exact List.all_takeWhile
  have h2 : (s.extract i (pend isDigit s.data.toList i)).data.toList.getD 0 0 = s.data.toList.getD i 0 := by
    rw [ext_data, cut_pend, drop_at (by omega), List.takeWhile_cons_of_pos hd]; rfl
  have h3 : (1 < (s.extract i (pend isDigit s.data.toList i)).size ∧ (s.extract i (pend isDigit s.data.toList i)).data.toList.getD 0 0 = 48) ↔ (pend isDigit s.data.toList i - i > 1 ∧ (s.data.toList.getD i 0).toNat = 48) := by
    rw [h2, ext_size (by omega)]
    exact and_congr Iff.rfl ⟨fun h => by rw [h]; rfl, fun h => UInt8.toNat_inj.1 h⟩
  unfold tok_reader_number.of at hgo
  simp only [if_pos h1] at hgo
  by_cases hz : pend isDigit s.data.toList i - i > 1 ∧ (s.data.toList.getD i 0).toNat = 48
  · rw [if_pos hz]
    rw [if_pos (h3.2 hz)] at hgo
    exact ⟨_, hgo _ rfl, rfl, by decide⟩
  · rw [if_neg hz]
    rw [if_neg (fun h => hz (h3.1 h)), ext_data] at hgo
    cases hn : numFold (cut s.data.toList i (pend isDigit s.data.toList i)) 0 with
    | none =>
      rw [hn] at hgo
      exact ⟨_, hgo _ rfl, rfl, by decide⟩
    | some n =>
      rw [hn] at hgo
      exact ⟨_, hgo _ rfl, _, by rw [ext_list]⟩
theorem quote_ev (s : ByteArray) (hs : s.size ≤ 140737488351232) (i : Nat) (hi : i < s.size) (hc : smallB (s.data.toList.getD i 0) = false) (hd : isDigit (s.data.toList.getD i 0) = false) (hq' : (s.data.toList.getD i 0).toNat = 39) :
    ∃ r, Ev (fun k => tok_reader_quote.f k s (i : Int)) r ∧ TokRel s (tokenAt s.data.toList i) r := by
  have hl := len_size s
  have hp := le_pend noQuoteB s.data.toList (i + 1)
  have hq := pend_le (p := noQuoteB) (L := s.data.toList) (i := i + 1) (by omega)
  unfold tokenAt
  rw [if_neg (by rw [hc]; decide), if_neg (by rw [hd]; decide), if_pos hq']
  have hw := while_quote_ev s hs (i + 1) (by omega)
  generalize hE : pend noQuoteB s.data.toList (i + 1) = E at *
  have hz := ext_size (s := s) (i := i + 1) (e := E) (by omega)
  have hgo : ∀ r, Ev (fun k => if ((E : Nat) : Int) = (s.size : Int) then (some (0, (⟨#[]⟩ : ByteArray), 0, 0, 14, s, ((E : Nat) : Int))) else (if ((s.extract (i + 1) E).size : Int) > 48 then (some (0, (⟨#[]⟩ : ByteArray), 0, 0, 15, s, wrap64 (((E : Nat) : Int) + 1))) else ((val_Plain.f (s.extract (i + 1) E)).bind fun t122 => (if t122 = true then (some (4, s.extract (i + 1) E, 0, 0, 0, s, wrap64 (((E : Nat) : Int) + 1))) else (some (0, (⟨#[]⟩ : ByteArray), 0, 0, 11, s, wrap64 (((E : Nat) : Int) + 1))))))) r →
      Ev (fun k => tok_reader_quote.f k s (i : Int)) r := fun r hr => by
    unfold tok_reader_quote.f
    rw [wrap_at (by omega) (by omega), show ((i : Int) + 1) = ((i + 1 : Nat) : Int) from by omega]
    exact Ev.bind hw hr
  by_cases h1 : s.data.toList.length ≤ E
  · rw [if_pos h1]
    exact ⟨_, hgo _ (Ev.pos (by omega) (Ev.some rfl)), rfl, by decide⟩
  · rw [if_neg h1]
    by_cases h2 : E - (i + 1) > 48
    · rw [if_pos h2]
      exact ⟨_, hgo _ (Ev.neg (by omega) (Ev.pos (by omega) (Ev.some rfl))), rfl, by decide⟩
    · rw [if_neg h2]
      have hpl : val_Plain.f (s.extract (i + 1) E) = some ((cut s.data.toList (i + 1) E).all val_Plain.ok) := by
        unfold val_Plain.f
        rw [if_pos (by omega), ext_data, hz, decide_eq_true (by omega), Bool.and_true]
      cases hb : (cut s.data.toList (i + 1) E).all val_Plain.ok with
      | true =>
        rw [hb] at hpl
        refine ⟨_, hgo _ (Ev.neg (by omega) (Ev.neg (by omega) (Ev.bind_some hpl (Ev.pos rfl (Ev.some rfl))))), ?_⟩
        rw [if_pos rfl]
        exact ⟨0, by rw [ext_list, wrap_at (by omega) (by omega)]; rfl⟩
      | false =>
        rw [hb] at hpl
        refine ⟨_, hgo _ (Ev.neg (by omega) (Ev.neg (by omega) (Ev.bind_some hpl (Ev.neg (by decide) (Ev.some rfl))))), ?_⟩
        rw [if_neg (by decide)]
        exact ⟨rfl, by decide⟩
theorem sign_ev (s : ByteArray) (hs : s.size ≤ 140737488351232) (i : Nat) (hi : i < s.size) (hc : smallB (s.data.toList.getD i 0) = false) (hd : isDigit (s.data.toList.getD i 0) = false) (hq' : ¬ (s.data.toList.getD i 0).toNat = 39) :
    ∃ r, tok_reader_sign.f s (i : Int) = some r ∧ TokRel s (tokenAt s.data.toList i) r := by
  unfold tokenAt
  rw [if_neg (by rw [hc]; decide), if_neg (by rw [hd]; decide), if_neg hq']
  unfold tok_reader_sign.f
  rw [if_pos ⟨by omega, by omega, by omega⟩, Int.toNat_natCast]
  cases signFind (s.data.toList.drop i) with
  | some g => exact ⟨_, rfl, 0, by simp⟩
  | none => exact ⟨_, rfl, rfl, by decide⟩
theorem token_ev (s : ByteArray) (hs : s.size ≤ 140737488351232) (i : Nat) (hi : i < s.size) :
    ∃ r, Ev (fun k => tok_reader_token.f k s (i : Int)) r ∧ TokRel s (tokenAt s.data.toList i) r := by
  unfold tok_reader_token.f
  rw [bt_nat s i hi]
  cases hc : smallB (s.data.toList.getD i 0) with
  | true =>
    obtain ⟨r, hr, h⟩ := path_ev s hs i hi hc
    exact ⟨r, Ev.pos (by omega) (Ev.pos (by omega) (Ev.bind_some (small_ev _) (Ev.pos hc (Ev.bind hr (Ev.some rfl))))), h⟩
  | false =>
    cases hd : isDigit (s.data.toList.getD i 0) with
    | true =>
      obtain ⟨r, hr, h⟩ := number_ev s hs i hi hc hd
      exact ⟨r, Ev.pos (by omega) (Ev.pos (by omega) (Ev.bind_some (small_ev _) (Ev.neg (by rw [hc]; decide) (Ev.bind_some (digit_ev _) (Ev.pos hd (Ev.bind hr (Ev.some rfl))))))), h⟩
    | false =>
      by_cases hq : (s.data.toList.getD i 0).toNat = 39
      · obtain ⟨r, hr, h⟩ := quote_ev s hs i hi hc hd hq
        exact ⟨r, Ev.pos (by omega) (Ev.pos (by omega) (Ev.bind_some (small_ev _) (Ev.neg (by rw [hc]; decide) (Ev.bind_some (digit_ev _) (Ev.neg (by rw [hd]; decide) (Ev.pos (by omega) (Ev.bind hr (Ev.some rfl)))))))), h⟩
      · obtain ⟨r, hr, h⟩ := sign_ev s hs i hi hc hd hq
        exact ⟨r, Ev.pos (by omega) (Ev.pos (by omega) (Ev.bind_some (small_ev _) (Ev.neg (by rw [hc]; decide) (Ev.bind_some (digit_ev _) (Ev.neg (by rw [hd]; decide) (Ev.neg (by omega) (Ev.bind_some hr (Ev.some rfl)))))))), h⟩
def Tk.s32 (t : Tk) : S32 := ⟨t.kind, ⟨t.text.toArray⟩, t.n, (t.pos : Int)⟩
theorem lex_l (s : ByteArray) (hs : s.size ≤ 140737488351232) : ∀ (f i : Nat) (out : List Tk), i ≤ s.size → s.size - i < f → out.length ≤ 120 →
    Ev (fun k => tok_Lex.l0 k s (i : Int) (out.map Tk.s32)) (((lexGo s.data.toList f i out).1).map Tk.s32, (lexGo s.data.toList f i out).2.1, ((lexGo s.data.toList f i out).2.2 : Int))
  | 0, i, out, hi, hf, ho => by omega
  | f + 1, i, out, hi, hf, ho => by
    have hl := len_size s
    have hp := le_pend blankB s.data.toList i
    have hq := pend_le (p := blankB) (L := s.data.toList) (i := i) (by omega)
    refine Ev.succ ?_
    simp only [tok_Lex.l0, lexGo]
    refine Ev.bind (while_blank_ev s hs i hi) ?_
    generalize pend blankB s.data.toList i = j at *
    dsimp only
    by_cases h1 : s.data.toList.length ≤ j
    · rw [if_pos h1]
      exact Ev.pos (by omega) (Ev.some (by simp))
    · rw [if_neg h1]
      refine Ev.neg (by omega) ?_
      by_cases h2 : out.length = 120
      · rw [if_pos h2]
        exact Ev.pos (by rw [List.length_map]; omega) (Ev.some (by simp))
      · rw [if_neg h2]
        refine Ev.neg (by rw [List.length_map]; omega) ?_
        obtain ⟨r, hr, h⟩ := token_ev s hs j (by omega)
        refine Ev.bind hr ?_
        cases ht : tokenAt s.data.toList j with
        | error e =>
          rw [ht] at h
          obtain ⟨h3, h4⟩ := h
          exact Ev.neg (by rw [h3]; exact h4) (Ev.some (by rw [h3]; simp))
        | ok x =>
          obtain ⟨k, t, n, e⟩ := x
          rw [ht] at h
          obtain ⟨a, rfl⟩ := h
          have hle := tokenAt_le (by omega) ht
          refine Ev.pos rfl (Ev.pos (by rw [List.length_map]; omega) ?_)
          have := lex_l s hs f e (out ++ [⟨k, t, n, j⟩]) (by omega) (by omega) (by rw [List.length_append]; simp; omega)
          rw [List.map_append] at this
          exact this
theorem Lex_ev (s : ByteArray) (hs : s.size ≤ 140737488351232) : Ev (fun k => tok_Lex.f k s) (((lex s.data.toList).1).map Tk.s32, (lex s.data.toList).2.1, ((lex s.data.toList).2.2 : Int)) := by
  have hl := len_size s
  exact lex_l s hs (s.data.toList.length + 1) 0 [] (by omega) (by omega) (by simp)
end Go.Proofs.YtbngfhlciebeeaaDoor.Sp
end
section
namespace Go.Proofs.YtbngfhlciebeeaaDoor.L
open Go.RowKit Go.Proofs.YtbngfhlciebeeaaDoorW.PrintWords Go.Proofs.YtbngfhlciebeeaaDoorW.PrintLast Go.Proofs.YtbngfhlciebeeaaDoorW.PrintMore
attribute [local go_sem] max2_int min2_int max_two min_two max_three min_three max_four min_four   -- for this text's walks alone
set_option linter.unusedVariables false
set_option linter.unusedSimpArgs false
def whirligigref02_letter.f (a0 : Int) : Option (Bool) := if a0 ≥ 97 then (some (decide (a0 ≤ 122))) else (some false)
set_option maxHeartbeats 8000000 in
set_option maxRecDepth 100000 in
theorem whirligigref02_letter.calls (a0 : Int) (r : Bool) (w : World) (h : whirligigref02_letter.f a0 = some r) :
  Calls Tryd.prog 108 #[.int .u8 a0] w fun e w' => e = .returned (.bool r) ∧ Drawn0 w w' := by
 have H : (if a0 ≥ 97 then (some (decide (a0 ≤ 122))) else (some false)) = some r := h
 clear h
 replace H := iD H
 rcases H with ⟨c2b0, H⟩ | ⟨c2b0, H⟩
 ·obtain rfl := Option.some.inj H
  go_enter Tryd.func108, Tryd.ntmps108
  go_wp2
  go_ret
  exact qN
 obtain rfl := Option.some.inj H
 go_enter Tryd.func108, Tryd.ntmps108
 go_wp2
 go_ret
 exact qN
def whirligigref02_inner.f (a0 : Int) : Option (Bool) := (whirligigref02_letter.f a0).bind fun t164 => (if t164 = true then (some true) else (if a0 ≥ 48 then (if a0 ≤ 57 then (some true) else (some (a0 == 95))) else (some (a0 == 95))))
set_option maxHeartbeats 8000000 in
set_option maxRecDepth 100000 in
theorem whirligigref02_inner.calls (a0 : Int) (r : Bool) (w : World) (h : whirligigref02_inner.f a0 = some r) :
  Calls Tryd.prog 113 #[.int .u8 a0] w fun e w' => e = .returned (.bool r) ∧ Drawn0 w w' := by
 have H : ((whirligigref02_letter.f a0).bind fun t164 => (if t164 = true then (some true) else (if a0 ≥ 48 then (if a0 ≤ 57 then (some true) else (some (a0 == 95))) else (some (a0 == 95))))) = some r := h
 clear h
 replace H := Option.bind_eq_some_iff.mp H
 obtain ⟨t164, A20, H⟩ := H
 (try dsimp -simprocs only at H)
 have A2 := Aside0.mk A20
 clear A20
 by_cases c3 : t164 = true
 ·subst c3
  rw [if_pos rfl] at H
  obtain rfl := Option.some.inj H
  go_enter Tryd.func113, Tryd.ntmps113
  go_wp2_with (first | ((with_reducible refine gc 108 rfl ?_); refine gl (some 4) #[.int .u8 a0] Tryd.func108 ?_; (with_reducible refine (whirligigref02_letter.calls a0 true _ A2.out).mono ?_); rintro e w' ⟨rfl, ⟨nd, rfl⟩⟩; refine ⟨_, rfl, ?_⟩))
  go_ret
  exact qN
 replace c3 := Bool.eq_false_iff.mpr c3
 subst c3
 rw [if_neg (show ¬ (false = true) by decide)] at H
 replace H := iD H
 rcases H with ⟨c4b0, H⟩ | ⟨c4b0, H⟩
 ·by_cases c5 : a0 ≤ 57
  ·rw [if_pos c5] at H
   have c5b0 := decide_eq_true c5
   clear c5
   obtain rfl := Option.some.inj H
   go_enter Tryd.func113, Tryd.ntmps113
   go_wp2_with (first | ((with_reducible refine gc 108 rfl ?_); refine gl (some 4) #[.int .u8 a0] Tryd.func108 ?_; (with_reducible refine (whirligigref02_letter.calls a0 false _ A2.out).mono ?_); rintro e w' ⟨rfl, ⟨nd, rfl⟩⟩; refine ⟨_, rfl, ?_⟩))
   go_ret
   exact qN
  rw [if_neg c5] at H
  have c5b0 := decide_eq_false c5
  clear c5
  obtain rfl := Option.some.inj H
  go_enter Tryd.func113, Tryd.ntmps113
  go_wp2_with (first | ((with_reducible refine gc 108 rfl ?_); refine gl (some 4) #[.int .u8 a0] Tryd.func108 ?_; (with_reducible refine (whirligigref02_letter.calls a0 false _ A2.out).mono ?_); rintro e w' ⟨rfl, ⟨nd, rfl⟩⟩; refine ⟨_, rfl, ?_⟩))
  go_ret
  exact qN
 obtain rfl := Option.some.inj H
 go_enter Tryd.func113, Tryd.ntmps113
 go_wp2_with (first | ((with_reducible refine gc 108 rfl ?_); refine gl (some 4) #[.int .u8 a0] Tryd.func108 ?_; (with_reducible refine (whirligigref02_letter.calls a0 false _ A2.out).mono ?_); rintro e w' ⟨rfl, ⟨nd, rfl⟩⟩; refine ⟨_, rfl, ?_⟩))
 go_ret
 exact qN
def whirligigref02_word.l0 : Nat → ByteArray → Int → Int → Option (Int)
 | 0, _, _, _ => none
 | k + 1, x0, x1, x5 => if (wrap64 (x1 + x5)) < (x0.size : Int) then (if 0 ≤ (wrap64 (x1 + x5)) then ((whirligigref02_inner.f (bt x0 (wrap64 (x1 + x5)))).bind fun t165 => (if t165 = true then (whirligigref02_word.l0 k x0 x1 (wrap64 (x5 + 1))) else (some x5))) else (none)) else (some x5)
def whirligigref02_word.f (k : Nat) (a0 : ByteArray) (a1 : Int) : Option (Int) := whirligigref02_word.l0 k a0 a1 0
set_option maxHeartbeats 8000000 in
set_option maxRecDepth 100000 in
theorem whirligigref02_word.calls (k : Nat) (a0 : ByteArray) (a1 : Int) (r : Int) (w : World) (h : whirligigref02_word.f k a0 a1 = some r) :
  Calls Tryd.prog 71 #[.string a0, .int .i64 a1] w fun e w' => e = .returned (.int .i64 r) ∧ Drawn0 w w' := by
 have H : (whirligigref02_word.l0 k a0 a1 0) = some r := h
 clear h
 have H' := Aside0.mk H
 clear H
 go_enter Tryd.func71, Tryd.ntmps71
 go_wp2
 go_loopg [5] k (fun kq v5 w' => ∃ (x5_1 : Int), v5 = .int .i64 x5_1 ∧ Aside0 (whirligigref02_word.l0 kq a0 a1 x5_1 = some r) ∧ Aside0 (kq ≤ k) ∧ Drawn0 w w')
 case atStart => exact ⟨(0), qE, H', ⟨Nat.le_refl _⟩, by repeat (first | exact Drawn0.refl _ | apply Drawn0.step)⟩
 case round =>
  clear H'
  try clear p2
  obtain ⟨x5_1, rfl, HA, HK1, ⟨m1, rfl⟩⟩ := hrel
  cases gk with
  | zero => exact absurd HA.out (by simp [whirligigref02_word.l0])
  | succ k1 =>
   have H := HA.out
   clear HA
   simp only [whirligigref02_word.l0] at H
   replace H := iD H
   rcases H with ⟨c3b0, H⟩ | ⟨c3b0, H⟩
   ·obtain ⟨ji4, hji4⟩ : ∃ j_ : Int, (wrap64 (a1 + x5_1)) = j_ := ⟨_, rfl⟩
    replace H : (if 0 ≤ (ji4) then ((whirligigref02_inner.f (bt a0 (ji4))).bind fun t165 => (if t165 = true then (whirligigref02_word.l0 k1 a0 a1 (wrap64 (x5_1 + 1))) else (some x5_1))) else (none)) = some r := by first | (rw [hji4] at H; exact H) | (simp only [hji4] at H ⊢; exact H)
    (try rw [hji4] at c3b0)
    have hji4w : (IntKind.i64.wrap (a1 + x5_1)) = ji4 := (i64_w _).trans hji4
    replace H := iD H
    rcases H with ⟨c5b0, H⟩ | ⟨c5b0, H⟩
    ·replace H := Option.bind_eq_some_iff.mp H; obtain ⟨t165, A70, H⟩ := H; (try dsimp -simprocs only at H); have A7 := Aside0.mk A70; clear A70
     by_cases c8 : t165 = true
     ·subst c8; rw [if_pos rfl] at H; have H' := Aside0.mk H; clear H; have p6 : 0 ≤ ((ji4) : Int) := qD; have q6 : (ji4) < (a0.size : Int) := qD; have hx6 := bt_at a0 (ji4); replace p6 := eq_true p6; replace q6 := eq_true q6
      go_wp2_with (first | (go_at_call 113; (with_reducible refine (whirligigref02_inner.calls (bt a0 (ji4)) true _ A7.out).mono ?_); rintro e w' ⟨rfl, ⟨nd, rfl⟩⟩))
      go_roundg k1
      case measure => have := HK1.out; omega
      case rel => exact ⟨(wrap64 (x5_1 + 1)), qE, H', ⟨by have := HK1.out; omega⟩, by repeat (first | exact Drawn0.refl _ | apply Drawn0.step)⟩
     replace c8 := Bool.eq_false_iff.mpr c8; subst c8; rw [if_neg (show ¬ (false = true) by decide)] at H; obtain rfl := Option.some.inj H; have p6 : 0 ≤ ((ji4) : Int) := qD; have q6 : (ji4) < (a0.size : Int) := qD; have hx6 := bt_at a0 (ji4); replace p6 := eq_true p6; replace q6 := eq_true q6
     go_wp2_with (first | (go_at_call 113; (with_reducible refine (whirligigref02_inner.calls (bt a0 (ji4)) false _ A7.out).mono ?_); rintro e w' ⟨rfl, ⟨nd, rfl⟩⟩))
     go_ret; exact ⟨by first | rfl | (simp; done) | (simp only [← hji4] <;> (first | rfl | simp)) | (simp [*]; done), by repeat (first | exact Drawn0.refl _ | apply Drawn0.step)⟩
    exact absurd H (by simp)
   obtain rfl := Option.some.inj H
   go_wp2
   go_ret
   exact qN
def whirligigref02_path.l0 : Nat → ByteArray → Int → Int → Int → Bool → Option (Int × ByteArray × Int × Int × Int × Int)
 | 0, _, _, _, _, _ => none
 | k + 1, x0, x1, x8, x9, x10 => if x10 = true then (some (0, (⟨#[]⟩ : ByteArray), 0, 0, x1, 15)) else (if (wrap64 (x8 + 1)) < (x0.size : Int) then (if 0 ≤ x8 then (if x8 < (x0.size : Int) then (if (bt x0 x8) = 46 then (if 0 ≤ (wrap64 (x8 + 1)) then ((whirligigref02_letter.f (bt x0 (wrap64 (x8 + 1)))).bind fun t168 => (if t168 = true then ((whirligigref02_word.f k x0 (wrap64 (x8 + 1))).bind fun t169 => (whirligigref02_path.l0 k x0 x1 (wrap64 ((wrap64 (x8 + 1)) + t169)) 2 (decide (t169 > 16)))) else (if (wrap64 (x8 - x1)) > 32 then (some (0, (⟨#[]⟩ : ByteArray), 0, 0, x1, 15)) else (if 0 ≤ x1 then (if x1 ≤ x8 then (if x8 ≤ (x0.size : Int) then (some (x9, x0.extract (x1 : Int).toNat (x8 : Int).toNat, 0, x1, x8, 0)) else (none)) else (none)) else (none))))) else (none)) else (if (wrap64 (x8 - x1)) > 32 then (some (0, (⟨#[]⟩ : ByteArray), 0, 0, x1, 15)) else (if 0 ≤ x1 then (if x1 ≤ x8 then (if x8 ≤ (x0.size : Int) then (some (x9, x0.extract (x1 : Int).toNat (x8 : Int).toNat, 0, x1, x8, 0)) else (none)) else (none)) else (none)))) else (none)) else (none)) else (if (wrap64 (x8 - x1)) > 32 then (some (0, (⟨#[]⟩ : ByteArray), 0, 0, x1, 15)) else (if 0 ≤ x1 then (if x1 ≤ x8 then (if x8 ≤ (x0.size : Int) then (some (x9, x0.extract (x1 : Int).toNat (x8 : Int).toNat, 0, x1, x8, 0)) else (none)) else (none)) else (none))))
def whirligigref02_path.f (k : Nat) (a0 : ByteArray) (a1 : Int) : Option (Int × ByteArray × Int × Int × Int × Int) := (whirligigref02_word.f k a0 a1).bind fun t167 => (whirligigref02_path.l0 k a0 a1 (wrap64 (a1 + t167)) 1 (decide (t167 > 16)))
set_option maxHeartbeats 8000000 in
set_option maxRecDepth 100000 in
theorem whirligigref02_path.calls (k : Nat) (a0 : ByteArray) (a1 : Int) (r1 : Int) (r2 : ByteArray) (r3 : Int) (r4 : Int) (r5 : Int) (r6 : Int) (w : World) (h : whirligigref02_path.f k a0 a1 = some (r1, r2, r3, r4, r5, r6)) :
  Calls Tryd.prog 109 #[.string a0, .int .i64 a1] w fun e w' => e = .returned (.tuple #[.agg #[.int .i64 r1, .string r2, .int .i64 r3, .int .i64 r4], .int .i64 r5, .int .i64 r6]) ∧ Below w.heap.size w w' := by
 have hu31 := Tryd.underlying31
 have HB := Aside0.mk (Below.refl w.heap.size w)
 have H : ((whirligigref02_word.f k a0 a1).bind fun t167 => (whirligigref02_path.l0 k a0 a1 (wrap64 (a1 + t167)) 1 (decide (t167 > 16)))) = some (r1, r2, r3, r4, r5, r6) := h
 clear h
 replace H := Option.bind_eq_some_iff.mp H
 obtain ⟨t167, A30, H⟩ := H
 (try dsimp -simprocs only at H)
 have A3 := Aside0.mk A30
 clear A30
 have H' := Aside0.mk H
 clear H
 go_enter Tryd.func109, Tryd.ntmps109
 go_wp2_with (first | ((with_reducible refine gate_dst (N := 4) rfl ?_); (try (refine gate_guard (by rfl) ?_; dsimp only)); refine box_event ?hg (N := 4) ?hd (cs := #[.int .i64 0, .string (⟨#[]⟩ : ByteArray), .int .i64 0, .int .i64 0]) (t := 31) ?hr ?_; (case hd => rfl); (case hg => rfl); (case hr => first | (go_simp; done) | (go_simp; rfl)); intro gb166 hg w4 hbox hb; have BK166 := Aside0.mk (hbox); have GW166 := geS hg; have GE166 := geS hg; replace HB := bst hb; clear hb hbox hg) | ((with_reducible refine gc 71 rfl ?_); refine gl (some 13) #[.string a0, .int .i64 a1] Tryd.func71 ?_; (with_reducible refine (whirligigref02_word.calls k a0 a1 t167 _ A3.out).mono ?_); rintro e w' ⟨rfl, ⟨nd, rfl⟩⟩; refine ⟨_, rfl, ?_⟩))
 go_loopg [8, 9, 10] k (fun kq v8 v9 v10 w' => ∃ (x8_1 : Int) (x9_1 : Int) (x10_1 : Bool), v8 = .int .i64 x8_1 ∧ v9 = .int .i64 x9_1 ∧ v10 = .bool x10_1 ∧ Aside0 (whirligigref02_path.l0 kq a0 a1 x8_1 x9_1 x10_1 = some (r1, r2, r3, r4, r5, r6)) ∧ Aside0 (kq ≤ k) ∧ Aside0 (w'.heap[gb166]? = some (.cells #[.int .i64 0, .string (⟨#[]⟩ : ByteArray), .int .i64 0, .int .i64 0] 31 (0, 0))) ∧ Aside0 (Below w.heap.size w w'))
 case atStart => exact ⟨(wrap64 (a1 + t167)), (1), (decide (t167 > 16)), qE, qE, qE, H', ⟨Nat.le_refl _⟩, ⟨qK⟩, ⟨qB⟩⟩
 case round =>
  clear H'
  try clear p2
  obtain ⟨x8_1, x9_1, x10_1, rfl, rfl, rfl, HA, HK1, BK166, HB⟩ := hrel
  cases gk with
  | zero => exact absurd HA.out (by simp [whirligigref02_path.l0])
  | succ k1 =>
   have H := HA.out
   clear HA
   simp only [whirligigref02_path.l0] at H
   by_cases c5 : x10_1 = true
   ·subst c5
    rw [if_pos rfl] at H
    simp only [Option.some.injEq, Prod.mk.injEq] at H
    obtain ⟨rfl, rfl, rfl, rfl, rfl, rfl⟩ := H
    obtain ⟨_, _, _, _, _, _, _, _⟩ := cells4 BK166.out
    go_wp2
    refine bodyPost_ret (results_ctt rfl _ _ gb166 31 #[.int .i64 0, .string (⟨#[]⟩ : ByteArray), .int .i64 0, .int .i64 0] (0, 0) _ rfl qP Tryd.underlying31 rfl (by kernel_rfl)) rfl ?_
    exact ⟨qR, qB⟩
   replace c5 := Bool.eq_false_iff.mpr c5
   subst c5
   rw [if_neg (show ¬ (false = true) by decide)] at H
   replace H := iD H
   rcases H with ⟨c7b0, H⟩ | ⟨c7b0, H⟩
   ·by_cases c8 : 0 ≤ x8_1
    ·rw [if_pos c8] at H; have c8b0 := decide_eq_true c8; clear c8; replace H := iD H
     rcases H with ⟨c9b0, H⟩ | ⟨c9b0, H⟩
     ·by_cases c11 : (bt a0 x8_1) = 46
      ·rw [if_pos c11] at H; have c11b0 := beq_iff_eq.mpr c11; have c11b1 := bne_eq_false_iff_eq.mpr c11; clear c11; obtain ⟨ji12, hji12⟩ : ∃ j_ : Int, (wrap64 (x8_1 + 1)) = j_ := ⟨_, rfl⟩; replace H : (if 0 ≤ (ji12) then ((whirligigref02_letter.f (bt a0 (ji12))).bind fun t168 => (if t168 = true then ((whirligigref02_word.f k1 a0 (ji12)).bind fun t169 => (whirligigref02_path.l0 k1 a0 a1 (wrap64 ((ji12) + t169)) 2 (decide (t169 > 16)))) else (if (wrap64 (x8_1 - a1)) > 32 then (some (0, (⟨#[]⟩ : ByteArray), 0, 0, a1, 15)) else (if 0 ≤ a1 then (if a1 ≤ x8_1 then (if x8_1 ≤ (a0.size : Int) then (some (x9_1, a0.extract (a1 : Int).toNat (x8_1 : Int).toNat, 0, a1, x8_1, 0)) else (none)) else (none)) else (none))))) else (none)) = some (r1, r2, r3, r4, r5, r6) := by first | (rw [hji12] at H; exact H) | (simp only [hji12] at H ⊢; exact H)
       (try rw [hji12] at c7b0); have hji12w : (IntKind.i64.wrap (x8_1 + 1)) = ji12 := (i64_w _).trans hji12; replace H := iD H
       rcases H with ⟨c13b0, H⟩ | ⟨c13b0, H⟩
       ·replace H := Option.bind_eq_some_iff.mp H; obtain ⟨t168, A150, H⟩ := H; (try dsimp -simprocs only at H); have A15 := Aside0.mk A150; clear A150
        by_cases c16 : t168 = true
        ·subst c16; rw [if_pos rfl] at H; replace H := Option.bind_eq_some_iff.mp H; obtain ⟨t169, A170, H⟩ := H; (try dsimp -simprocs only at H); have A17 := Aside0.mk A170; clear A170; have H' := Aside0.mk H; clear H; have p10 : 0 ≤ (x8_1 : Int) := qD; have q10 : x8_1 < (a0.size : Int) := qD; have hx10 := bt_at a0 x8_1; replace p10 := eq_true p10; replace q10 := eq_true q10; have p14 : 0 ≤ ((ji12) : Int) := qD; have q14 : (ji12) < (a0.size : Int) := qD; have hx14 := bt_at a0 (ji12); replace p14 := eq_true p14; replace q14 := eq_true q14
         go_wp2_with (first | (go_at_call 108; (with_reducible refine (whirligigref02_letter.calls (bt a0 (ji12)) true _ A15.out).mono ?_); rintro e w' ⟨rfl, ⟨nd, rfl⟩⟩) | ((with_reducible refine gate_callee (f := 71) rfl ?_); refine goesL_ (some 44) rfl rfl Tryd.func71 (by kernel_rfl) rfl #[.string a0, .int .i64 ji12] rfl (by (try simp only [List.map_toArray, List.map_cons, List.map_nil]); first | done | (simp only [hji12]; rfl) | rfl | (simp only [List.length_drop, List.length_take]; rfl)) ?_; (with_reducible refine (whirligigref02_word.calls k1 a0 ji12 t169 _ A17.out).mono ?_); rintro e w' ⟨rfl, ⟨nd, rfl⟩⟩; refine ⟨_, rfl, ?_⟩))
         go_roundg k1
         case measure => have := HK1.out; omega
         case rel => exact ⟨(wrap64 ((ji12) + t169)), (2), (decide (t169 > 16)), (by first | rfl | (simp; done) | (simp only [← hji12] <;> (first | rfl | simp)) | (simp [*]; done)), qE, qE, H', ⟨by have := HK1.out; omega⟩, ⟨qK⟩, ⟨qB⟩⟩
        replace c16 := Bool.eq_false_iff.mpr c16; subst c16; rw [if_neg (show ¬ (false = true) by decide)] at H; replace H := iD H
        rcases H with ⟨c18b0, H⟩ | ⟨c18b0, H⟩
        ·simp only [Option.some.injEq, Prod.mk.injEq] at H; obtain ⟨rfl, rfl, rfl, rfl, rfl, rfl⟩ := H; have p10 : 0 ≤ (x8_1 : Int) := qD; have q10 : x8_1 < (a0.size : Int) := qD; have hx10 := bt_at a0 x8_1; replace p10 := eq_true p10; replace q10 := eq_true q10; have p14 : 0 ≤ ((ji12) : Int) := qD; have q14 : (ji12) < (a0.size : Int) := qD; have hx14 := bt_at a0 (ji12); replace p14 := eq_true p14; replace q14 := eq_true q14
         go_wp2_with (first | (go_at_call 108; (with_reducible refine (whirligigref02_letter.calls (bt a0 (ji12)) false _ A15.out).mono ?_); rintro e w' ⟨rfl, ⟨nd, rfl⟩⟩; (try (rw [drewN_self wr]; generalize hq_ : World.drewN wr _ = wr; have n0_ : Aside0 (wr.heap[gb166]? = some (.cells #[.int .i64 0, .string (⟨#[]⟩ : ByteArray), .int .i64 0, .int .i64 0] 31 (0, 0))) := ⟨by rw [← hq_]; exact qK⟩; have n1_ : Aside0 (Below w.heap.size w wr) := ⟨by rw [← hq_]; exact qB⟩; clear BK166 HB hq_; have BK166 := n0_; have HB := n1_; clear n0_ n1_)); obtain ⟨_, _, _, _, _, _, _, _⟩ := cells4 BK166.out))
         refine bodyPost_ret (results_ctt rfl _ _ gb166 31 #[.int .i64 0, .string (⟨#[]⟩ : ByteArray), .int .i64 0, .int .i64 0] (0, 0) _ rfl qP Tryd.underlying31 rfl (by kernel_rfl)) rfl ?_; exact ⟨by first | rfl | (simp [errW_none, errW_some] <;> rfl) | (simp only [← hji12]; first | rfl | (simp [errW_none, errW_some] <;> rfl)) | (simp [*, errW_none, errW_some] <;> rfl), qB⟩
        by_cases c20 : 0 ≤ a1
        ·rw [if_pos c20] at H; have c20b0 := eq_true c20; have c20b1 := decide_eq_true c20; clear c20
         by_cases c21 : a1 ≤ x8_1
         ·rw [if_pos c21] at H; have c21b0 := eq_true c21; have c21b1 := decide_eq_true c21; clear c21
          by_cases c22 : x8_1 ≤ (a0.size : Int)
          ·rw [if_pos c22] at H; have c22b0 := eq_true c22; have c22b1 := decide_eq_true c22; clear c22; simp only [Option.some.injEq, Prod.mk.injEq] at H; obtain ⟨rfl, rfl, rfl, rfl, rfl, rfl⟩ := H; have p10 : 0 ≤ (x8_1 : Int) := qD; have q10 : x8_1 < (a0.size : Int) := qD; have hx10 := bt_at a0 x8_1; replace p10 := eq_true p10; replace q10 := eq_true q10; have p14 : 0 ≤ ((ji12) : Int) := qD; have q14 : (ji12) < (a0.size : Int) := qD; have hx14 := bt_at a0 (ji12); replace p14 := eq_true p14; replace q14 := eq_true q14
           go_wp2_with (first | (go_at_call 108; (with_reducible refine (whirligigref02_letter.calls (bt a0 (ji12)) false _ A15.out).mono ?_); rintro e w' ⟨rfl, ⟨nd, rfl⟩⟩; (try (rw [drewN_self wr]; generalize hq_ : World.drewN wr _ = wr; have n0_ : Aside0 (wr.heap[gb166]? = some (.cells #[.int .i64 0, .string (⟨#[]⟩ : ByteArray), .int .i64 0, .int .i64 0] 31 (0, 0))) := ⟨by rw [← hq_]; exact qK⟩; have n1_ : Aside0 (Below w.heap.size w wr) := ⟨by rw [← hq_]; exact qB⟩; clear BK166 HB hq_; have BK166 := n0_; have HB := n1_; clear n0_ n1_)); obtain ⟨_, _, _, _, _, _, _, _⟩ := cells4 BK166.out))
           refine bodyPost_ret (results_ctt rfl _ _ gb166 31 #[.int .i64 x9_1, .string (a0.extract (a1 : Int).toNat (x8_1 : Int).toNat), .int .i64 0, .int .i64 a1] (0, 0) _ rfl qP Tryd.underlying31 rfl (by kernel_rfl)) rfl ?_; exact ⟨by first | rfl | (simp [errW_none, errW_some] <;> rfl) | (simp only [← hji12]; first | rfl | (simp [errW_none, errW_some] <;> rfl)) | (simp [*, errW_none, errW_some] <;> rfl), qB⟩
          rw [if_neg c22] at H; exact absurd H (by simp)
         rw [if_neg c21] at H; exact absurd H (by simp)
        rw [if_neg c20] at H; exact absurd H (by simp)
       exact absurd H (by simp)
      rw [if_neg c11] at H; have c11b0 := beq_eq_false_iff_ne.mpr c11; have c11b1 := bne_iff_ne.mpr c11; replace H := iD H
      rcases H with ⟨c24b0, H⟩ | ⟨c24b0, H⟩
      ·simp only [Option.some.injEq, Prod.mk.injEq] at H; obtain ⟨rfl, rfl, rfl, rfl, rfl, rfl⟩ := H; have p10 : 0 ≤ (x8_1 : Int) := qD; have q10 : x8_1 < (a0.size : Int) := qD; have hx10 := bt_at a0 x8_1; replace p10 := eq_true p10; replace q10 := eq_true q10; obtain ⟨_, _, _, _, _, _, _, _⟩ := cells4 BK166.out
       go_wp2
       refine bodyPost_ret (results_ctt rfl _ _ gb166 31 #[.int .i64 0, .string (⟨#[]⟩ : ByteArray), .int .i64 0, .int .i64 0] (0, 0) _ rfl qP Tryd.underlying31 rfl (by kernel_rfl)) rfl ?_; exact ⟨qR, qB⟩
      by_cases c26 : 0 ≤ a1
      ·rw [if_pos c26] at H; have c26b0 := eq_true c26; have c26b1 := decide_eq_true c26; clear c26
       by_cases c27 : a1 ≤ x8_1
       ·rw [if_pos c27] at H; have c27b0 := eq_true c27; have c27b1 := decide_eq_true c27; clear c27
        by_cases c28 : x8_1 ≤ (a0.size : Int)
        ·rw [if_pos c28] at H; have c28b0 := eq_true c28; have c28b1 := decide_eq_true c28; clear c28; simp only [Option.some.injEq, Prod.mk.injEq] at H; obtain ⟨rfl, rfl, rfl, rfl, rfl, rfl⟩ := H; have p10 : 0 ≤ (x8_1 : Int) := qD; have q10 : x8_1 < (a0.size : Int) := qD; have hx10 := bt_at a0 x8_1; replace p10 := eq_true p10; replace q10 := eq_true q10; obtain ⟨_, _, _, _, _, _, _, _⟩ := cells4 BK166.out
         go_wp2
         refine bodyPost_ret (results_ctt rfl _ _ gb166 31 #[.int .i64 x9_1, .string (a0.extract (a1 : Int).toNat (x8_1 : Int).toNat), .int .i64 0, .int .i64 a1] (0, 0) _ rfl qP Tryd.underlying31 rfl (by kernel_rfl)) rfl ?_; exact ⟨qR, qB⟩
        rw [if_neg c28] at H; exact absurd H (by simp)
       rw [if_neg c27] at H; exact absurd H (by simp)
      rw [if_neg c26] at H; exact absurd H (by simp)
     exact absurd H (by simp)
    rw [if_neg c8] at H
    exact absurd H (by simp)
   by_cases c30 : (wrap64 (x8_1 - a1)) > 32
   ·rw [if_pos c30] at H
    have c30b0 := decide_eq_true c30
    clear c30
    simp only [Option.some.injEq, Prod.mk.injEq] at H
    obtain ⟨rfl, rfl, rfl, rfl, rfl, rfl⟩ := H
    obtain ⟨_, _, _, _, _, _, _, _⟩ := cells4 BK166.out
    go_wp2
    refine bodyPost_ret (results_ctt rfl _ _ gb166 31 #[.int .i64 0, .string (⟨#[]⟩ : ByteArray), .int .i64 0, .int .i64 0] (0, 0) _ rfl qP Tryd.underlying31 rfl (by kernel_rfl)) rfl ?_
    exact ⟨qR, qB⟩
   rw [if_neg c30] at H
   have c30b0 := decide_eq_false c30
   clear c30
   by_cases c32 : 0 ≤ a1
   ·rw [if_pos c32] at H
    have c32b0 := eq_true c32
    have c32b1 := decide_eq_true c32
    clear c32
    by_cases c33 : a1 ≤ x8_1
    ·rw [if_pos c33] at H; have c33b0 := eq_true c33; have c33b1 := decide_eq_true c33; clear c33
     by_cases c34 : x8_1 ≤ (a0.size : Int)
     ·rw [if_pos c34] at H; have c34b0 := eq_true c34; have c34b1 := decide_eq_true c34; clear c34; simp only [Option.some.injEq, Prod.mk.injEq] at H; obtain ⟨rfl, rfl, rfl, rfl, rfl, rfl⟩ := H; obtain ⟨_, _, _, _, _, _, _, _⟩ := cells4 BK166.out
      go_wp2
      refine bodyPost_ret (results_ctt rfl _ _ gb166 31 #[.int .i64 x9_1, .string (a0.extract (a1 : Int).toNat (x8_1 : Int).toNat), .int .i64 0, .int .i64 a1] (0, 0) _ rfl qP Tryd.underlying31 rfl (by kernel_rfl)) rfl ?_; exact ⟨qR, qB⟩
     rw [if_neg c34] at H; exact absurd H (by simp)
    rw [if_neg c33] at H
    exact absurd H (by simp)
   rw [if_neg c32] at H
   exact absurd H (by simp)
def whirligigref01_Digits.f : Nat → Int → Option (ByteArray)
 | 0, _ => none
 | k + 1, a0 => if a0 ≤ (-10) then ((whirligigref01_Digits.f k (wrap64 (Int.tdiv a0 10))).bind fun t170 => ((whirligigref01_Digits.f k (wrap64 (-(Int.tmod a0 10)))).bind fun t171 => (if t170.size + t171.size ≤ 9223372036854775807 then (some (t170 ++ t171)) else (none)))) else (if a0 < 0 then ((whirligigref01_Digits.f k (wrap64 (-a0))).bind fun t172 => (if 1 + t172.size ≤ 9223372036854775807 then (some ((⟨#[45]⟩ : ByteArray) ++ t172)) else (none))) else (if a0 < 10 then (some (strOfNums (([(wrap64 (48 + a0)) % 256] : List Int)))) else ((whirligigref01_Digits.f k (wrap64 (Int.tdiv a0 10))).bind fun t176 => ((whirligigref01_Digits.f k (Int.tmod a0 10)).bind fun t177 => (if t176.size + t177.size ≤ 9223372036854775807 then (some (t176 ++ t177)) else (none))))))
set_option maxHeartbeats 8000000 in
set_option maxRecDepth 100000 in
theorem whirligigref01_Digits.calls (k : Nat) : ∀ (a0 : Int) (r : ByteArray) (w : World) (h : whirligigref01_Digits.f k a0 = some r),
  Calls Tryd.prog 154 #[.int .i64 a0] w fun e w' => e = .returned (.string r) ∧ Below w.heap.size w w' := by
 induction k using Nat.strongRecOn with
 | _ k ih =>
 intro a0 r w h
 cases k with
 | zero => exact absurd h (by simp [whirligigref01_Digits.f])
 | succ k =>
 simp only [whirligigref01_Digits.f] at h
 have HB := Aside0.mk (Below.refl w.heap.size w)
 have H : (if a0 ≤ (-10) then ((whirligigref01_Digits.f k (wrap64 (Int.tdiv a0 10))).bind fun t170 => ((whirligigref01_Digits.f k (wrap64 (-(Int.tmod a0 10)))).bind fun t171 => (if t170.size + t171.size ≤ 9223372036854775807 then (some (t170 ++ t171)) else (none)))) else (if a0 < 0 then ((whirligigref01_Digits.f k (wrap64 (-a0))).bind fun t172 => (if 1 + t172.size ≤ 9223372036854775807 then (some ((⟨#[45]⟩ : ByteArray) ++ t172)) else (none))) else (if a0 < 10 then (some (strOfNums (([(wrap64 (48 + a0)) % 256] : List Int)))) else ((whirligigref01_Digits.f k (wrap64 (Int.tdiv a0 10))).bind fun t176 => ((whirligigref01_Digits.f k (Int.tmod a0 10)).bind fun t177 => (if t176.size + t177.size ≤ 9223372036854775807 then (some (t176 ++ t177)) else (none))))))) = some r := h
 clear h
 replace H := iD H
 rcases H with ⟨c2b0, H⟩ | ⟨c2b0, H⟩
 ·replace H := Option.bind_eq_some_iff.mp H
  obtain ⟨t170, A30, H⟩ := H
  (try dsimp -simprocs only at H)
  have A3 := Aside0.mk A30
  clear A30
  replace H := Option.bind_eq_some_iff.mp H
  obtain ⟨t171, A40, H⟩ := H
  (try dsimp -simprocs only at H)
  have A4 := Aside0.mk A40
  clear A40
  by_cases c5 : t170.size + t171.size ≤ 9223372036854775807
  ·rw [if_pos c5] at H
   have c5b0 := eq_true c5
   have c5b1 := decide_eq_true c5
   try have c5b2 : (9223372036854775807 < t170.size + t171.size) = False := eq_false (Nat.not_lt.2 c5)
   obtain rfl := Option.some.inj H
   go_enter Tryd.func154, Tryd.ntmps154
   go_wp2_with (first | ((with_reducible refine gc 154 rfl ?_); refine gl (some 7) #[.int .i64 (wrap64 (Int.tdiv a0 10))] Tryd.func154 ?_; (with_reducible refine (ih k (by omega) (wrap64 (Int.tdiv a0 10)) t170 _ A3.out).mono ?_); rintro e w6 ⟨rfl, hb⟩; refine ⟨_, rfl, ?_⟩; replace HB := bst hb; (try clear hb)) | ((with_reducible refine gc 154 rfl ?_); refine gl (some 11) #[.int .i64 (wrap64 (-(Int.tmod a0 10)))] Tryd.func154 ?_; (with_reducible refine (ih k (by omega) (wrap64 (-(Int.tmod a0 10))) t171 _ A4.out).mono ?_); rintro e w7 ⟨rfl, hb⟩; refine ⟨_, rfl, ?_⟩; replace HB := bst hb; (try clear hb)))
   go_ret
   exact ⟨qR, qB⟩
  rw [if_neg c5] at H
  exact absurd H (by simp)
 by_cases c8 : a0 < 0
 ·rw [if_pos c8] at H
  have c8b0 := decide_eq_true c8
  clear c8
  replace H := Option.bind_eq_some_iff.mp H
  obtain ⟨t172, A90, H⟩ := H
  (try dsimp -simprocs only at H)
  have A9 := Aside0.mk A90
  clear A90
  by_cases c10 : 1 + t172.size ≤ 9223372036854775807
  ·rw [if_pos c10] at H
   have c10b0 := eq_true c10
   have c10b1 := decide_eq_true c10
   try have c10b2 : (9223372036854775807 < 1 + t172.size) = False := eq_false (Nat.not_lt.2 c10)
   obtain rfl := Option.some.inj H
   go_enter Tryd.func154, Tryd.ntmps154
   go_wp2_with (first | ((with_reducible refine gc 154 rfl ?_); refine gl (some 17) #[.int .i64 (wrap64 (-a0))] Tryd.func154 ?_; (with_reducible refine (ih k (by omega) (wrap64 (-a0)) t172 _ A9.out).mono ?_); rintro e w11 ⟨rfl, hb⟩; refine ⟨_, rfl, ?_⟩; replace HB := bst hb; (try clear hb)))
   go_ret
   exact ⟨qR, qB⟩
  rw [if_neg c10] at H
  exact absurd H (by simp)
 rw [if_neg c8] at H
 have c8b0 := decide_eq_false c8
 clear c8
 replace H := iD H
 rcases H with ⟨c12b0, H⟩ | ⟨c12b0, H⟩
 ·obtain ⟨y173, hy173⟩ : ∃ y_ : List Int, y_ = (([(wrap64 (48 + a0)) % 256] : List Int)) := ⟨_, rfl⟩
  replace H : (some (strOfNums y173)) = some r := by first | (rw [hy173]; with_reducible exact H) | (have H2_ := (Option.bind_some _ _).symm.trans H; rw [hy173]; with_reducible exact H2_) | (have H2_ := (Option.bind_some _ _).symm.trans H; with_reducible exact H2_) | with_reducible exact H | (rw [hy173]; exact H) | exact H
  have Ny173 := Aside0.mk hy173
  clear hy173
  obtain rfl := Option.some.inj H
  go_enter Tryd.func154, Tryd.ntmps154
  go_wp2_with (first | ((with_reducible refine gate_dst (N := 24) rfl ?_); refine Kd.R_lit (Kd.int .u8) _ 5 ?hg (N := 24) ?hd (xs := ([(wrap64 (48 + a0)) % 256] : List Int)) (inner := [.int .u8 ((wrap64 (48 + a0)) % 256)]) (ok := fun _ => True) (okp := fun _ => True) ?hr ?hp (fun _ hk => hk) trivial (Below.refl _ _) (Nat.le_refl _) (by simp) ?_; (case hd => rfl); (case hg => rfl); (case hr => first | (go_simp; done) | (go_simp; rfl)); (case hp => exact (Reps.one (show Kd.M (Kd.int .u8) _ _ _ ((wrap64 (48 + a0)) % 256) [.int .u8 ((wrap64 (48 + a0)) % 256)] from rfl) (Reps.none _ _))); intro v174 w13 ho14 hb hg_ hnew_; clear hg_ hnew_; (first | rw [← Ny173.out] at ho14 | (simp only [Int.reduceToNat] at ho14; rw [← Ny173.out] at ho14)); have HO175 := Aside0.mk (Kd.R_lower ho14 (below_size qB)); replace HB := bst hb; clear hb ho14; have hcv15 := own_string (P := Tryd.prog) Tryd.underlying131 Tryd.underlying5 Tryd.underlying9 (Kd.own_of_R HO175.out)))
  go_ret
  exact ⟨qR, qB⟩
 replace H := Option.bind_eq_some_iff.mp H
 obtain ⟨t176, A160, H⟩ := H
 (try dsimp -simprocs only at H)
 have A16 := Aside0.mk A160
 clear A160
 replace H := Option.bind_eq_some_iff.mp H
 obtain ⟨t177, A170, H⟩ := H
 (try dsimp -simprocs only at H)
 have A17 := Aside0.mk A170
 clear A170
 by_cases c18 : t176.size + t177.size ≤ 9223372036854775807
 ·rw [if_pos c18] at H
  have c18b0 := eq_true c18
  have c18b1 := decide_eq_true c18
  try have c18b2 : (9223372036854775807 < t176.size + t177.size) = False := eq_false (Nat.not_lt.2 c18)
  obtain rfl := Option.some.inj H
  go_enter Tryd.func154, Tryd.ntmps154
  go_wp2_with (first | ((with_reducible refine gc 154 rfl ?_); refine gl (some 28) #[.int .i64 (wrap64 (Int.tdiv a0 10))] Tryd.func154 ?_; (with_reducible refine (ih k (by omega) (wrap64 (Int.tdiv a0 10)) t176 _ A16.out).mono ?_); rintro e w19 ⟨rfl, hb⟩; refine ⟨_, rfl, ?_⟩; replace HB := bst hb; (try clear hb)) | ((with_reducible refine gc 154 rfl ?_); refine gl (some 31) #[.int .i64 (Int.tmod a0 10)] Tryd.func154 ?_; (with_reducible refine (ih k (by omega) (Int.tmod a0 10) t177 _ A17.out).mono ?_); rintro e w20 ⟨rfl, hb⟩; refine ⟨_, rfl, ?_⟩; replace HB := bst hb; (try clear hb)))
  go_ret
  exact ⟨qR, qB⟩
 rw [if_neg c18] at H
 exact absurd H (by simp)
end Go.Proofs.YtbngfhlciebeeaaDoor.L
end
