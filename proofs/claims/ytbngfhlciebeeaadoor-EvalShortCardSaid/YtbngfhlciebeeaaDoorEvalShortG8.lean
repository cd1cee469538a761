/- Printed and hand-written steps towards the row (EvalShort), those that it reaches. -/
import Derived.Test.YtbngfhlciebeeaaDoorEvalShortG7
import Derived.Test.YtbngfhlciebeeaaDoorEvalShortG3
import Derived.Test.YtbngfhlciebeeaaDoorEvalShortG4
import Derived.KernelRfl
import Derived.ChangeArms
import Derived.WideShapes
import Derived.DataElems
import Derived.Lib.LaidTab
import Derived.OpenShut
section
namespace Go.Proofs.YtbngfhlciebeeaaDoor.Sp
set_option linter.unusedVariables false
set_option linter.unusedSimpArgs false
open Go.RowKit Go.Proofs.YtbngfhlciebeeaaDoor.L Go.Proofs.YtbngfhlciebeeaaDoorW.PrintWords
theorem cut_pend (p : UInt8 → Bool) (L : List UInt8) (i : Nat) : cut L i (pend p L i) = (L.drop i).takeWhile p := by
  unfold cut pend
  rw [List.drop_take, Nat.add_sub_cancel_left]
  exact (List.prefix_iff_eq_take.1 (List.takeWhile_prefix p)).symm
theorem cut_append {L : List UInt8} {i j k : Nat} (h1 : i ≤ j) (h2 : j ≤ k) : cut L i j ++ cut L j k = cut L i k := by
  unfold cut
  rw [List.drop_take, List.drop_take, List.drop_take]
  have e : L.drop j = (L.drop i).drop (j - i) := by rw [List.drop_drop]; congr 1; omega
  rw [e, show k - i = (j - i) + (k - j) from by omega, List.take_add]
theorem cut_one {L : List UInt8} {i : Nat} (h : i < L.length) : cut L i (i + 1) = [L.getD i 0] := by
  unfold cut
  rw [List.drop_take, show i + 1 - i = 1 from by omega, drop_at h]; rfl
theorem cut_dot {L : List UInt8} {i e e' : Nat} (h0 : i ≤ e) (h1 : e < L.length) (h2 : e + 1 ≤ e') (hd : (L.getD e 0).toNat = 46) : cut L i e ++ ([46] ++ cut L (e + 1) e') = cut L i e' := by
  have : L.getD e 0 = 46 := UInt8.toNat_inj.1 hd
  rw [show ([46] : List UInt8) = cut L e (e + 1) from by rw [cut_one h1, this], cut_append (by omega) h2, cut_append h0 (by omega)]
theorem ext_dot {s : ByteArray} {i e e' : Nat} (h0 : i ≤ e) (h1 : e < s.size) (h2 : e + 1 ≤ e') (hd : (s.data.toList.getD e 0).toNat = 46) : s.extract i e ++ ((⟨#[46]⟩ : ByteArray) ++ s.extract (e + 1) e') = s.extract i e' := by
  have hl := len_size s
  rw [ext_list, ext_list, ext_list, show (⟨#[46]⟩ : ByteArray) = ⟨([46] : List UInt8).toArray⟩ from rfl, mk_append, mk_append, cut_dot h0 (by omega) h2 hd]
theorem ext_size {s : ByteArray} {i e : Nat} (h : e ≤ s.size) : (s.extract i e).size = e - i := by
  have hl := len_size s
  rw [ext_list, size_mk, cut_length (by omega)]
theorem ext_data (s : ByteArray) (i e : Nat) : (s.extract i e).data.toList = cut s.data.toList i e := by rw [ext_list]
theorem path_l (s : ByteArray) (hs : s.size ≤ 140737488351232) (i : Nat) (a : Int) : ∀ (f e : Nat) (kd : Int), i ≤ e → e ≤ s.size → s.size - e < f →
    ∃ r, Ev (fun k => tok_reader_path.l0 k s (e : Int) kd (s.extract i e) 0 a) r ∧
      match pathGo s.data.toList f e kd with
      | none => r.2.2.2.2.1 = 15
      | some (k', e') => r = (k', s.extract i e', 0, a, (if e' - i > 32 then 15 else 0), s, (e' : Int))
  | 0, e, kd, h0, h1, h2 => by omega
  | f + 1, e, kd, h0, h1, h2 => by
    have hl := len_size s
    have hend : ∀ k', tok_reader_path.j1 (k' + 1) false s (e : Int) kd (s.extract i e) 0 a = some (kd, s.extract i e, 0, a, (if e - i > 32 then 15 else 0), s, (e : Int)) := fun k' => by
      simp only [tok_reader_path.j1]
      rw [if_neg (by decide), ext_size h1]
      by_cases h : e - i > 32
      · rw [if_pos (by omega), if_pos h]
      · rw [if_neg (by omega), if_neg h]
    by_cases hc : e + 1 < s.data.toList.length ∧ (s.data.toList.getD e 0).toNat = 46 ∧ smallB (s.data.toList.getD (e + 1) 0) = true
    · obtain ⟨hc1, hc2, hc3⟩ := hc
      have hp := le_pend innerB s.data.toList (e + 1)
      have hq := pend_le (p := innerB) (L := s.data.toList) (i := e + 1) (by omega)
      simp only [pathGo]
      rw [if_pos ⟨hc1, hc2, hc3⟩]
      have hgo : ∀ r, Ev (fun k => if ((s.extract (e + 1) (pend innerB s.data.toList (e + 1))).size : Int) > 16 then some (2, s.extract i e ++ ((⟨#[46]⟩ : ByteArray) ++ s.extract (e + 1) (pend innerB s.data.toList (e + 1))), 0, a, 15, s, ((pend innerB s.data.toList (e + 1) : Nat) : Int)) else tok_reader_path.l0 k s ((pend innerB s.data.toList (e + 1) : Nat) : Int) 2 (s.extract i e ++ ((⟨#[46]⟩ : ByteArray) ++ s.extract (e + 1) (pend innerB s.data.toList (e + 1)))) 0 a) r →
          Ev (fun k => tok_reader_path.l0 k s (e : Int) kd (s.extract i e) 0 a) r := fun r hr => by
        refine Ev.succ ?_
        simp only [tok_reader_path.l0]
        rw [wrap_at (by omega) (by omega)]
        refine Ev.pos (by omega) (Ev.pos (by omega) (Ev.pos (by omega) ?_))
        rw [bt_nat s e (by omega)]
        refine Ev.pos (by omega) (Ev.pos (by omega) ?_)
        rw [show ((e : Int) + 1) = ((e + 1 : Nat) : Int) from by omega, bt_nat s (e + 1) (by omega)]
        refine Ev.bind_some (small_ev _) ?_
        rw [hc3]
        refine Ev.succ ?_
        simp only [tok_reader_path.j1]
        refine Ev.pos trivial ?_
        rw [wrap_at (by omega) (by omega), show ((e : Int) + 1) = ((e + 1 : Nat) : Int) from by omega]
        refine Ev.bind (word_ev s hs (e + 1) (by omega)) ?_
        refine Ev.pos (by rw [ext_size (by omega)]; omega) (Ev.pos ?_ hr)
        rw [ByteArray.size_append, ext_size (by omega), ext_size (by omega)]
        show _ + (1 + _) ≤ _
        omega
      by_cases hw : pend innerB s.data.toList (e + 1) - (e + 1) > 16
      · rw [if_pos hw]
        exact ⟨_, hgo _ (Ev.pos (by rw [ext_size (by omega)]; omega) (Ev.some rfl)), rfl⟩
      · rw [if_neg hw]
        obtain ⟨r, hr, h⟩ := path_l s hs i a f (pend innerB s.data.toList (e + 1)) 2 (by omega) (by omega) (by omega)
        refine ⟨r, hgo r (Ev.neg (by rw [ext_size (by omega)]; omega) ?_), h⟩
        rw [ext_dot h0 (by omega) (by omega) hc2]
        exact hr
    · simp only [pathGo]
      rw [if_neg hc]
      refine ⟨_, ?_, rfl⟩
      refine Ev.succ ?_
      simp only [tok_reader_path.l0]
      rw [wrap_at (by omega) (by omega)]
      by_cases h3 : e + 1 < s.size
      · refine Ev.pos (by omega) (Ev.pos (by omega) (Ev.pos (by omega) ?_))
        rw [bt_nat s e (by omega)]
        by_cases h4 : (s.data.toList.getD e 0).toNat = 46
        · refine Ev.pos (by omega) (Ev.pos (by omega) ?_)
          rw [show ((e : Int) + 1) = ((e + 1 : Nat) : Int) from by omega, bt_nat s (e + 1) (by omega)]
          refine Ev.bind_some (small_ev _) ?_
          have h5 : smallB (s.data.toList.getD (e + 1) 0) = false := by
            cases hb : smallB (s.data.toList.getD (e + 1) 0)
            · rfl
            · exact absurd ⟨by omega, h4, hb⟩ hc
          rw [h5]
          exact Ev.succ (Ev.const hend)
        · exact Ev.neg (by omega) (Ev.succ (Ev.const hend))
      · exact Ev.neg (by omega) (Ev.succ (Ev.const hend))
def TokRel (s : ByteArray) (x : Except Int (Int × List UInt8 × Int × Nat)) (r : Int × ByteArray × Int × Int × Int × ByteArray × Int) : Prop :=
  match x with
  | .error e => r.2.2.2.2.1 = e ∧ e ≠ 0
  | .ok (k, t, n, e) => ∃ a, r = (k, ⟨t.toArray⟩, n, a, 0, s, (e : Int))
theorem path_ev (s : ByteArray) (hs : s.size ≤ 140737488351232) (i : Nat) (hi : i < s.size) (hc : smallB (s.data.toList.getD i 0) = true) :
    ∃ r, Ev (fun k => tok_reader_path.f k s (i : Int)) r ∧ TokRel s (tokenAt s.data.toList i) r := by
  have hl := len_size s
  have hp := le_pend innerB s.data.toList i
  have hq := pend_le (p := innerB) (L := s.data.toList) (i := i) (by omega)
  have hgo : ∀ r, Ev (fun k => if ((s.extract i (pend innerB s.data.toList i)).size : Int) > 16 then some (1, s.extract i (pend innerB s.data.toList i), 0, ((pend innerB s.data.toList i : Nat) : Int), 15, s, ((pend innerB s.data.toList i : Nat) : Int)) else tok_reader_path.l0 k s ((pend innerB s.data.toList i : Nat) : Int) 1 (s.extract i (pend innerB s.data.toList i)) 0 ((pend innerB s.data.toList i : Nat) : Int)) r →
      Ev (fun k => tok_reader_path.f k s (i : Int)) r := fun r hr => by
    unfold tok_reader_path.f
    exact Ev.bind (word_ev s hs i (by omega)) hr
  unfold tokenAt
  rw [if_pos hc]
  by_cases hw : pend innerB s.data.toList i - i > 16
  · rw [if_pos hw]
    exact ⟨_, hgo _ (Ev.pos (by rw [ext_size (by omega)]; omega) (Ev.some rfl)), rfl, by decide⟩
  · rw [if_neg hw]
    obtain ⟨r, hr, h⟩ := path_l s hs i ((pend innerB s.data.toList i : Nat) : Int) (s.data.toList.length + 1) (pend innerB s.data.toList i) 1 hp (by omega) (by omega)
    refine ⟨r, hgo r (Ev.neg (by rw [ext_size (by omega)]; omega) hr), ?_⟩
    cases hg : pathGo s.data.toList (s.data.toList.length + 1) (pend innerB s.data.toList i) 1 with
    | none =>
      rw [hg] at h
      exact ⟨h, by decide⟩
    | some x =>
      obtain ⟨k', e'⟩ := x
      rw [hg] at h
      simp only at h ⊢
      subst h
      by_cases h3 : e' - i > 32
      · rw [if_pos h3, if_pos h3]; exact ⟨rfl, by decide⟩
      · rw [if_neg h3, if_neg h3]; exact ⟨_, by rw [ext_list]⟩
theorem number_ev (s : ByteArray) (hs : s.size ≤ 140737488351232) (i : Nat) (hi : i < s.size) (hc : smallB (s.data.toList.getD i 0) = false) (hd : isDigit (s.data.toList.getD i 0) = true) :
    ∃ r, Ev (fun k => tok_reader_number.f k s (i : Int)) r ∧ TokRel s (tokenAt s.data.toList i) r := by
  have hl := len_size s
  have hp := le_pend isDigit s.data.toList (i + 1)
  have hst := pend_step (p := isDigit) (L := s.data.toList) (i := i) (by omega) hd
  have hq := pend_le (p := isDigit) (L := s.data.toList) (i := i) (by omega)
  have hgo : ∀ r, tok_reader_number.of (s.extract i (pend isDigit s.data.toList i)) s ((pend isDigit s.data.toList i : Nat) : Int) = some r → Ev (fun k => tok_reader_number.f k s (i : Int)) r := fun r hr => by
    unfold tok_reader_number.f
    exact Ev.bind (while_digit_ev s hs i (by omega)) (Ev.const fun _ => hr)
  unfold tokenAt
  rw [if_neg (by rw [hc]; decide), if_pos hd]
  have h1 : (s.extract i (pend isDigit s.data.toList i)).size ≤ 140737488351232 ∧ (s.extract i (pend isDigit s.data.toList i)).data.toList.all isDigit = true := by
    refine ⟨by rw [ext_size (by omega)]; omega, ?_⟩
    rw [ext_data, cut_pend]
    exact List.all_takeWhile
  have h2 : (s.extract i (pend isDigit s.data.toList i)).data.toList.getD 0 0 = s.data.toList.getD i 0 := by
    rw [ext_data, cut_pend, drop_at (by omega), List.takeWhile_cons_of_pos hd]; rfl
  have h3 : (1 < (s.extract i (pend isDigit s.data.toList i)).size ∧ (s.extract i (pend isDigit s.data.toList i)).data.toList.getD 0 0 = 48) ↔ (pend isDigit s.data.toList i - i > 1 ∧ (s.data.toList.getD i 0).toNat = 48) := by
    rw [h2, ext_size (by omega)]
    exact and_congr Iff.rfl ⟨fun h => by rw [h]; rfl, fun h => UInt8.toNat_inj.1 h⟩
  unfold tok_reader_number.of at hgo
  simp only [if_pos h1] at hgo
  by_cases hz : pend isDigit s.data.toList i - i > 1 ∧ (s.data.toList.getD i 0).toNat = 48
  · rw [if_pos hz]
    rw [if_pos (h3.2 hz)] at hgo
    exact ⟨_, hgo _ rfl, rfl, by decide⟩
  · rw [if_neg hz]
    rw [if_neg (fun h => hz (h3.1 h)), ext_data] at hgo
    cases hn : numFold (cut s.data.toList i (pend isDigit s.data.toList i)) 0 with
    | none =>
      rw [hn] at hgo
      exact ⟨_, hgo _ rfl, rfl, by decide⟩
    | some n =>
      rw [hn] at hgo
      exact ⟨_, hgo _ rfl, _, by rw [ext_list]⟩
theorem quote_ev (s : ByteArray) (hs : s.size ≤ 140737488351232) (i : Nat) (hi : i < s.size) (hc : smallB (s.data.toList.getD i 0) = false) (hd : isDigit (s.data.toList.getD i 0) = false) (hq' : (s.data.toList.getD i 0).toNat = 39) :
    ∃ r, Ev (fun k => tok_reader_quote.f k s (i : Int)) r ∧ TokRel s (tokenAt s.data.toList i) r := by
  have hl := len_size s
  have hp := le_pend noQuoteB s.data.toList (i + 1)
  have hq := pend_le (p := noQuoteB) (L := s.data.toList) (i := i + 1) (by omega)
  unfold tokenAt
  rw [if_neg (by rw [hc]; decide), if_neg (by rw [hd]; decide), if_pos hq']
  have hw := while_quote_ev s hs (i + 1) (by omega)
  generalize hE : pend noQuoteB s.data.toList (i + 1) = E at *
  have hz := ext_size (s := s) (i := i + 1) (e := E) (by omega)
  have hgo : ∀ r, Ev (fun k => if ((E : Nat) : Int) = (s.size : Int) then (some (0, (⟨#[]⟩ : ByteArray), 0, 0, 14, s, ((E : Nat) : Int))) else (if ((s.extract (i + 1) E).size : Int) > 48 then (some (0, (⟨#[]⟩ : ByteArray), 0, 0, 15, s, wrap64 (((E : Nat) : Int) + 1))) else ((val_Plain.f (s.extract (i + 1) E)).bind fun t122 => (if t122 = true then (some (4, s.extract (i + 1) E, 0, 0, 0, s, wrap64 (((E : Nat) : Int) + 1))) else (some (0, (⟨#[]⟩ : ByteArray), 0, 0, 11, s, wrap64 (((E : Nat) : Int) + 1))))))) r →
      Ev (fun k => tok_reader_quote.f k s (i : Int)) r := fun r hr => by
    unfold tok_reader_quote.f
    rw [wrap_at (by omega) (by omega), show ((i : Int) + 1) = ((i + 1 : Nat) : Int) from by omega]
    exact Ev.bind hw hr
  by_cases h1 : s.data.toList.length ≤ E
  · rw [if_pos h1]
    exact ⟨_, hgo _ (Ev.pos (by omega) (Ev.some rfl)), rfl, by decide⟩
  · rw [if_neg h1]
    by_cases h2 : E - (i + 1) > 48
    · rw [if_pos h2]
      exact ⟨_, hgo _ (Ev.neg (by omega) (Ev.pos (by omega) (Ev.some rfl))), rfl, by decide⟩
    · rw [if_neg h2]
      have hpl : val_Plain.f (s.extract (i + 1) E) = some ((cut s.data.toList (i + 1) E).all val_Plain.ok) := by
        unfold val_Plain.f
        rw [if_pos (by omega), ext_data, hz, decide_eq_true (by omega), Bool.and_true]
      cases hb : (cut s.data.toList (i + 1) E).all val_Plain.ok with
      | true =>
        rw [hb] at hpl
        refine ⟨_, hgo _ (Ev.neg (by omega) (Ev.neg (by omega) (Ev.bind_some hpl (Ev.pos rfl (Ev.some rfl))))), ?_⟩
        rw [if_pos rfl]
        exact ⟨0, by rw [ext_list, wrap_at (by omega) (by omega)]; rfl⟩
      | false =>
        rw [hb] at hpl
        refine ⟨_, hgo _ (Ev.neg (by omega) (Ev.neg (by omega) (Ev.bind_some hpl (Ev.neg (by decide) (Ev.some rfl))))), ?_⟩
        rw [if_neg (by decide)]
        exact ⟨rfl, by decide⟩
theorem sign_ev (s : ByteArray) (hs : s.size ≤ 140737488351232) (i : Nat) (hi : i < s.size) (hc : smallB (s.data.toList.getD i 0) = false) (hd : isDigit (s.data.toList.getD i 0) = false) (hq' : ¬ (s.data.toList.getD i 0).toNat = 39) :
    ∃ r, tok_reader_sign.f s (i : Int) = some r ∧ TokRel s (tokenAt s.data.toList i) r := by
  unfold tokenAt
  rw [if_neg (by rw [hc]; decide), if_neg (by rw [hd]; decide), if_neg hq']
  unfold tok_reader_sign.f
  rw [if_pos ⟨by omega, by omega, by omega⟩, Int.toNat_natCast]
  cases signFind (s.data.toList.drop i) with
  | some g => exact ⟨_, rfl, 0, by simp⟩
  | none => exact ⟨_, rfl, rfl, by decide⟩
theorem token_ev (s : ByteArray) (hs : s.size ≤ 140737488351232) (i : Nat) (hi : i < s.size) :
    ∃ r, Ev (fun k => tok_reader_token.f k s (i : Int)) r ∧ TokRel s (tokenAt s.data.toList i) r := by
  unfold tok_reader_token.f
  rw [bt_nat s i hi]
  cases hc : smallB (s.data.toList.getD i 0) with
  | true =>
    obtain ⟨r, hr, h⟩ := path_ev s hs i hi hc
    exact ⟨r, Ev.pos (by omega) (Ev.pos (by omega) (Ev.bind_some (small_ev _) (Ev.pos hc (Ev.bind hr (Ev.some rfl))))), h⟩
  | false =>
    cases hd : isDigit (s.data.toList.getD i 0) with
    | true =>
      obtain ⟨r, hr, h⟩ := number_ev s hs i hi hc hd
      exact ⟨r, Ev.pos (by omega) (Ev.pos (by omega) (Ev.bind_some (small_ev _) (Ev.neg (by rw [hc]; decide) (Ev.bind_some (digit_ev _) (Ev.pos hd (Ev.bind hr (Ev.some rfl))))))), h⟩
    | false =>
      by_cases hq : (s.data.toList.getD i 0).toNat = 39
      · obtain ⟨r, hr, h⟩ := quote_ev s hs i hi hc hd hq
        exact ⟨r, Ev.pos (by omega) (Ev.pos (by omega) (Ev.bind_some (small_ev _) (Ev.neg (by rw [hc]; decide) (Ev.bind_some (digit_ev _) (Ev.neg (by rw [hd]; decide) (Ev.pos (by omega) (Ev.bind hr (Ev.some rfl)))))))), h⟩
      · obtain ⟨r, hr, h⟩ := sign_ev s hs i hi hc hd hq
        exact ⟨r, Ev.pos (by omega) (Ev.pos (by omega) (Ev.bind_some (small_ev _) (Ev.neg (by rw [hc]; decide) (Ev.bind_some (digit_ev _) (Ev.neg (by rw [hd]; decide) (Ev.neg (by omega) (Ev.bind_some hr (Ev.some rfl)))))))), h⟩
def Tk.s32 (t : Tk) : S32 := ⟨t.kind, ⟨t.text.toArray⟩, t.n, (t.pos : Int)⟩
theorem lex_l (s : ByteArray) (hs : s.size ≤ 140737488351232) : ∀ (f i : Nat) (out : List Tk), i ≤ s.size → s.size - i < f → out.length ≤ 120 →
    Ev (fun k => tok_Lex.l0 k s (i : Int) (out.map Tk.s32)) (((lexGo s.data.toList f i out).1).map Tk.s32, (lexGo s.data.toList f i out).2.1, ((lexGo s.data.toList f i out).2.2 : Int))
  | 0, i, out, hi, hf, ho => by omega
  | f + 1, i, out, hi, hf, ho => by
    have hl := len_size s
    have hp := le_pend blankB s.data.toList i
    have hq := pend_le (p := blankB) (L := s.data.toList) (i := i) (by omega)
    refine Ev.succ ?_
    simp only [tok_Lex.l0, lexGo]
    refine Ev.bind (while_blank_ev s hs i hi) ?_
    generalize pend blankB s.data.toList i = j at *
    dsimp only
    by_cases h1 : s.data.toList.length ≤ j
    · rw [if_pos h1]
      exact Ev.pos (by omega) (Ev.some (by simp))
    · rw [if_neg h1]
      refine Ev.neg (by omega) ?_
      by_cases h2 : out.length = 120
      · rw [if_pos h2]
        exact Ev.pos (by rw [List.length_map]; omega) (Ev.some (by simp))
      · rw [if_neg h2]
        refine Ev.neg (by rw [List.length_map]; omega) ?_
        obtain ⟨r, hr, h⟩ := token_ev s hs j (by omega)
        refine Ev.bind hr ?_
        cases ht : tokenAt s.data.toList j with
        | error e =>
          rw [ht] at h
          obtain ⟨h3, h4⟩ := h
          exact Ev.neg (by rw [h3]; exact h4) (Ev.some (by rw [h3]; simp))
        | ok x =>
          obtain ⟨k, t, n, e⟩ := x
          rw [ht] at h
          obtain ⟨a, rfl⟩ := h
          have hle := tokenAt_le (by omega) ht
          refine Ev.pos rfl (Ev.pos (by rw [List.length_map]; omega) ?_)
          have := lex_l s hs f e (out ++ [⟨k, t, n, j⟩]) (by omega) (by omega) (by rw [List.length_append]; simp; omega)
          rw [List.map_append] at this
          exact this
theorem Lex_ev (s : ByteArray) (hs : s.size ≤ 140737488351232) : Ev (fun k => tok_Lex.f k s) (((lex s.data.toList).1).map Tk.s32, (lex s.data.toList).2.1, ((lex s.data.toList).2.2 : Int)) := by
  have hl := len_size s
  exact lex_l s hs (s.data.toList.length + 1) 0 [] (by omega) (by omega) (by simp)
end Go.Proofs.YtbngfhlciebeeaaDoor.Sp
end
section
namespace Go.Proofs.YtbngfhlciebeeaaDoor.L
open Go.RowKit Go.Proofs.YtbngfhlciebeeaaDoorW.PrintWords Go.Proofs.YtbngfhlciebeeaaDoorW.PrintLast Go.Proofs.YtbngfhlciebeeaaDoorW.PrintMore
attribute [local go_sem] max2_int min2_int max_two min_two max_three min_three max_four min_four   -- for this text's walks alone
set_option linter.unusedVariables false
set_option linter.unusedSimpArgs false
def whirligigref01_Plain.l0 : Nat → ByteArray → Int → Option (Bool)
 | 0, _, _ => none
 | k + 1, x0, x3 => if x3 < (x0.size : Int) then (if 0 ≤ x3 then (if (bt x0 x3) < 32 then (some false) else (if (bt x0 x3) > 126 then (some false) else (if (bt x0 x3) = 39 then (some false) else (whirligigref01_Plain.l0 k x0 (wrap64 (x3 + 1)))))) else (none)) else (some true)
def whirligigref01_Plain.f (k : Nat) (a0 : ByteArray) : Option (Bool) := if (a0.size : Int) > 48 then (some false) else (whirligigref01_Plain.l0 k a0 0)
set_option maxHeartbeats 8000000 in
set_option maxRecDepth 100000 in
theorem whirligigref01_Plain.calls (k : Nat) (a0 : ByteArray) (r : Bool) (w : World) (h : whirligigref01_Plain.f k a0 = some r) :
  Calls Tryd.prog 122 #[.string a0] w fun e w' => e = .returned (.bool r) ∧ Drawn0 w w' := by
 have H : (if (a0.size : Int) > 48 then (some false) else (whirligigref01_Plain.l0 k a0 0)) = some r := h
 clear h
 by_cases c2 : (a0.size : Int) > 48
 ·rw [if_pos c2] at H
  have c2b0 := decide_eq_true c2
  have c2b1 : decide (48 < a0.size) = true := decide_eq_true (by omega)
  clear c2
  obtain rfl := Option.some.inj H
  go_enter Tryd.func122, Tryd.ntmps122
  go_wp2
  go_ret
  exact qN
 rw [if_neg c2] at H
 have c2b0 := decide_eq_false c2
 have c2b1 : decide (48 < a0.size) = false := decide_eq_false (by omega)
 clear c2
 have H' := Aside0.mk H
 clear H
 go_enter Tryd.func122, Tryd.ntmps122
 go_wp2
 go_loopg [3] k (fun kq v3 w' => ∃ (x3_1 : Int), v3 = .int .i64 x3_1 ∧ Aside0 (whirligigref01_Plain.l0 kq a0 x3_1 = some r) ∧ Aside0 (kq ≤ k) ∧ Drawn0 w w')
 case atStart => exact ⟨(0), qE, H', ⟨Nat.le_refl _⟩, by repeat (first | exact Drawn0.refl _ | apply Drawn0.step)⟩
 case round =>
  clear H'
  try clear p2
  obtain ⟨x3_1, rfl, HA, HK1, ⟨m1, rfl⟩⟩ := hrel
  cases gk with
  | zero => exact absurd HA.out (by simp [whirligigref01_Plain.l0])
  | succ k1 =>
   have H := HA.out
   clear HA
   simp only [whirligigref01_Plain.l0] at H
   replace H := iD H
   rcases H with ⟨c3b0, H⟩ | ⟨c3b0, H⟩
   ·by_cases c4 : 0 ≤ x3_1
    ·rw [if_pos c4] at H; have c4b0 := decide_eq_true c4; clear c4; replace H := iD H
     rcases H with ⟨c6b0, H⟩ | ⟨c6b0, H⟩
     ·obtain rfl := Option.some.inj H; have p5 : 0 ≤ (x3_1 : Int) := qD; have q5 : x3_1 < (a0.size : Int) := qD; have hx5 := bt_at a0 x3_1; replace p5 := eq_true p5; replace q5 := eq_true q5
      go_wp2
      go_ret; exact qN
     by_cases c8 : (bt a0 x3_1) > 126
     ·rw [if_pos c8] at H; have c8b0 := decide_eq_true c8; clear c8; obtain rfl := Option.some.inj H; have p5 : 0 ≤ (x3_1 : Int) := qD; have q5 : x3_1 < (a0.size : Int) := qD; have hx5 := bt_at a0 x3_1; replace p5 := eq_true p5; replace q5 := eq_true q5; have p7 : 0 ≤ (x3_1 : Int) := qD; have q7 : x3_1 < (a0.size : Int) := qD; have hx7 := bt_at a0 x3_1; replace p7 := eq_true p7; replace q7 := eq_true q7
      go_wp2
      go_ret; exact qN
     rw [if_neg c8] at H; have c8b0 := decide_eq_false c8; clear c8
     by_cases c10 : (bt a0 x3_1) = 39
     ·rw [if_pos c10] at H; have c10b0 := beq_iff_eq.mpr c10; have c10b1 := bne_eq_false_iff_eq.mpr c10; clear c10; obtain rfl := Option.some.inj H; have p5 : 0 ≤ (x3_1 : Int) := qD; have q5 : x3_1 < (a0.size : Int) := qD; have hx5 := bt_at a0 x3_1; replace p5 := eq_true p5; replace q5 := eq_true q5; have p7 : 0 ≤ (x3_1 : Int) := qD; have q7 : x3_1 < (a0.size : Int) := qD; have hx7 := bt_at a0 x3_1; replace p7 := eq_true p7; replace q7 := eq_true q7; have p9 : 0 ≤ (x3_1 : Int) := qD; have q9 : x3_1 < (a0.size : Int) := qD; have hx9 := bt_at a0 x3_1; replace p9 := eq_true p9; replace q9 := eq_true q9
      go_wp2
      go_ret; exact qN
     rw [if_neg c10] at H; have c10b0 := beq_eq_false_iff_ne.mpr c10; have c10b1 := bne_iff_ne.mpr c10; have H' := Aside0.mk H; clear H; have p5 : 0 ≤ (x3_1 : Int) := qD; have q5 : x3_1 < (a0.size : Int) := qD; have hx5 := bt_at a0 x3_1; replace p5 := eq_true p5; replace q5 := eq_true q5; have p7 : 0 ≤ (x3_1 : Int) := qD; have q7 : x3_1 < (a0.size : Int) := qD; have hx7 := bt_at a0 x3_1; replace p7 := eq_true p7; replace q7 := eq_true q7; have p9 : 0 ≤ (x3_1 : Int) := qD; have q9 : x3_1 < (a0.size : Int) := qD; have hx9 := bt_at a0 x3_1; replace p9 := eq_true p9; replace q9 := eq_true q9
     go_wp2
     go_roundg k1
     case measure => have := HK1.out; omega
     case rel => exact ⟨(wrap64 (x3_1 + 1)), qE, H', ⟨by have := HK1.out; omega⟩, by repeat (first | exact Drawn0.refl _ | apply Drawn0.step)⟩
    rw [if_neg c4] at H
    exact absurd H (by simp)
   obtain rfl := Option.some.inj H
   go_wp2
   go_ret
   exact qN
end Go.Proofs.YtbngfhlciebeeaaDoor.L
end
section
namespace Go.Proofs.YtbngfhlciebeeaaDoor.Sp
set_option linter.unusedVariables false
set_option linter.unusedSimpArgs false
open Go.RowKit Go.Proofs.YtbngfhlciebeeaaDoor.L Go.Proofs.YtbngfhlciebeeaaDoorW.PrintWords
theorem rplain_l (t : ByteArray) (ht : t.size ≤ 140737488351232) (d : Nat) : ∀ j, j ≤ t.size → t.size - j = d →
    Ev (fun k => whirligigref01_Plain.l0 k t (j : Int)) ((t.data.toList.drop j).all val_Plain.ok) := by
  have hl := len_size t
  induction d with
  | zero =>
    intro j hj hd
    rw [List.drop_eq_nil_of_le (by omega)]
    refine Ev.succ ?_
    simp only [whirligigref01_Plain.l0]
    exact Ev.neg (by omega) (Ev.some rfl)
  | succ d ih =>
    intro j hj hd
    rw [drop_at (by omega), List.all_cons]
    refine Ev.succ ?_
    simp only [whirligigref01_Plain.l0]
    rw [bt_nat t j (by omega)]
    generalize t.data.toList.getD j 0 = c
    refine Ev.pos (by omega) (Ev.pos (by omega) ?_)
    by_cases h1 : (c.toNat : Int) < 32
    · rw [plain_bad (.inl h1)]; exact Ev.pos h1 (Ev.some rfl)
    · by_cases h2 : 126 < (c.toNat : Int)
      · rw [plain_bad (.inr (.inl h2))]; exact Ev.neg h1 (Ev.pos h2 (Ev.some rfl))
      · by_cases h3 : (c.toNat : Int) = 39
        · rw [plain_bad (.inr (.inr h3))]; exact Ev.neg h1 (Ev.neg h2 (Ev.pos h3 (Ev.some rfl)))
        · rw [plain_ok_of h1 h2 h3, Bool.true_and, wrap_at (by omega) (by omega)]
          exact Ev.neg h1 (Ev.neg h2 (Ev.neg h3 (ih (j + 1) (by omega) (by omega))))
theorem rplain_ev (t : ByteArray) (ht : t.size ≤ 48) : Ev (fun k => whirligigref01_Plain.f k t) (t.data.toList.all val_Plain.ok) := by
  unfold whirligigref01_Plain.f
  exact Ev.neg (by omega) (rplain_l t (by omega) _ 0 (by omega) rfl)
theorem lexGo_len (L : List UInt8) : ∀ (f i : Nat) (out : List Tk), out.length ≤ 120 → (lexGo L f i out).1.length ≤ 120
  | 0, i, out, h => by simp [lexGo]
  | f + 1, i, out, h => by
    simp only [lexGo]
    split
    · exact h
    · split
      · simp
      · split
        · simp
        · exact lexGo_len L f _ _ (by rw [List.length_append]; simp; omega)
theorem lex_len (L : List UInt8) : (lex L).1.length ≤ 120 := lexGo_len L _ _ _ (by simp)
end Go.Proofs.YtbngfhlciebeeaaDoor.Sp
end
section
namespace Go.Proofs.YtbngfhlciebeeaaDoor.L
open Go.RowKit Go.Proofs.YtbngfhlciebeeaaDoorW.PrintWords Go.Proofs.YtbngfhlciebeeaaDoorW.PrintLast Go.Proofs.YtbngfhlciebeeaaDoorW.PrintMore
attribute [local go_sem] max2_int min2_int max_two min_two max_three min_three max_four min_four   -- for this text's walks alone
set_option linter.unusedVariables false
set_option linter.unusedSimpArgs false
def tok_Means.f (a0 : ByteArray) : Option (Bool) := if a0.toList = ([99, 104, 97, 114, 116] : List UInt8) then (some true) else (if a0.toList = ([118, 97, 114] : List UInt8) then (some true) else (if a0.toList = ([115, 116, 97, 116, 101] : List UInt8) then (some true) else (if a0.toList = ([112, 97, 114, 97, 108, 108, 101, 108] : List UInt8) then (some true) else (if a0.toList = ([102, 105, 110, 97, 108] : List UInt8) then (some true) else (if a0.toList = ([100, 101, 101, 112] : List UInt8) then (some true) else (if a0.toList = ([115, 104, 97, 108, 108, 111, 119] : List UInt8) then (some true) else (if a0.toList = ([101, 110, 116, 101, 114] : List UInt8) then (some true) else (if a0.toList = ([101, 120, 105, 116] : List UInt8) then (some true) else (if a0.toList = ([111, 110] : List UInt8) then (some true) else (if a0.toList = ([97, 117, 116, 111] : List UInt8) then (some true) else (if a0.toList = ([101, 110, 100] : List UInt8) then (some true) else (if a0.toList = ([105, 102] : List UInt8) then (some true) else (if a0.toList = ([103, 111] : List UInt8) then (some true) else (if a0.toList = ([105, 110, 110, 101, 114] : List UInt8) then (some true) else (if a0.toList = ([100, 111] : List UInt8) then (some true) else (if a0.toList = ([115, 101, 116] : List UInt8) then (some true) else (if a0.toList = ([114, 97, 105, 115, 101] : List UInt8) then (some true) else (if a0.toList = ([115, 101, 110, 100] : List UInt8) then (some true) else (if a0.toList = ([99, 97, 110, 99, 101, 108] : List UInt8) then (some true) else (if a0.toList = ([108, 111, 103] : List UInt8) then (some true) else (if a0.toList = ([116, 114, 117, 101] : List UInt8) then (some true) else (if a0.toList = ([102, 97, 108, 115, 101] : List UInt8) then (some true) else (if a0.toList = ([110, 111, 116] : List UInt8) then (some true) else (if a0.toList = ([97, 110, 100] : List UInt8) then (some true) else (if a0.toList = ([111, 114] : List UInt8) then (some true) else (if a0.toList = ([105, 110] : List UInt8) then (some true) else (some false)))))))))))))))))))))))))))
set_option maxHeartbeats 8000000 in
set_option maxRecDepth 100000 in
theorem tok_Means.calls (a0 : ByteArray) (r : Bool) (w : World) (h : tok_Means.f a0 = some r) :
  Calls Tryd.prog 28 #[.string a0] w fun e w' => e = .returned (.bool r) ∧ Drawn0 w w' := by
 have H : (if a0.toList = ([99, 104, 97, 114, 116] : List UInt8) then (some true) else (if a0.toList = ([118, 97, 114] : List UInt8) then (some true) else (if a0.toList = ([115, 116, 97, 116, 101] : List UInt8) then (some true) else (if a0.toList = ([112, 97, 114, 97, 108, 108, 101, 108] : List UInt8) then (some true) else (if a0.toList = ([102, 105, 110, 97, 108] : List UInt8) then (some true) else (if a0.toList = ([100, 101, 101, 112] : List UInt8) then (some true) else (if a0.toList = ([115, 104, 97, 108, 108, 111, 119] : List UInt8) then (some true) else (if a0.toList = ([101, 110, 116, 101, 114] : List UInt8) then (some true) else (if a0.toList = ([101, 120, 105, 116] : List UInt8) then (some true) else (if a0.toList = ([111, 110] : List UInt8) then (some true) else (if a0.toList = ([97, 117, 116, 111] : List UInt8) then (some true) else (if a0.toList = ([101, 110, 100] : List UInt8) then (some true) else (if a0.toList = ([105, 102] : List UInt8) then (some true) else (if a0.toList = ([103, 111] : List UInt8) then (some true) else (if a0.toList = ([105, 110, 110, 101, 114] : List UInt8) then (some true) else (if a0.toList = ([100, 111] : List UInt8) then (some true) else (if a0.toList = ([115, 101, 116] : List UInt8) then (some true) else (if a0.toList = ([114, 97, 105, 115, 101] : List UInt8) then (some true) else (if a0.toList = ([115, 101, 110, 100] : List UInt8) then (some true) else (if a0.toList = ([99, 97, 110, 99, 101, 108] : List UInt8) then (some true) else (if a0.toList = ([108, 111, 103] : List UInt8) then (some true) else (if a0.toList = ([116, 114, 117, 101] : List UInt8) then (some true) else (if a0.toList = ([102, 97, 108, 115, 101] : List UInt8) then (some true) else (if a0.toList = ([110, 111, 116] : List UInt8) then (some true) else (if a0.toList = ([97, 110, 100] : List UInt8) then (some true) else (if a0.toList = ([111, 114] : List UInt8) then (some true) else (if a0.toList = ([105, 110] : List UInt8) then (some true) else (some false)))))))))))))))))))))))))))) = some r := h
 clear h
 by_cases c2 : a0.toList = ([99, 104, 97, 114, 116] : List UInt8)
 ·rw [if_pos c2] at H
  have c2b0 := beq_iff_eq.mpr c2
  have c2b1 := bne_eq_false_iff_eq.mpr c2
  clear c2
  obtain rfl := Option.some.inj H
  go_enter Tryd.func28, Tryd.ntmps28
  go_wp2
  go_ret
  exact qN
 rw [if_neg c2] at H
 have c2b0 := beq_eq_false_iff_ne.mpr c2
 have c2b1 := bne_iff_ne.mpr c2
 by_cases c3 : a0.toList = ([118, 97, 114] : List UInt8)
 ·rw [if_pos c3] at H
  have c3b0 := beq_iff_eq.mpr c3
  have c3b1 := bne_eq_false_iff_eq.mpr c3
  clear c3
  obtain rfl := Option.some.inj H
  go_enter Tryd.func28, Tryd.ntmps28
  go_wp2
  go_ret
  exact qN
 rw [if_neg c3] at H
 have c3b0 := beq_eq_false_iff_ne.mpr c3
 have c3b1 := bne_iff_ne.mpr c3
 by_cases c4 : a0.toList = ([115, 116, 97, 116, 101] : List UInt8)
 ·rw [if_pos c4] at H
  have c4b0 := beq_iff_eq.mpr c4
  have c4b1 := bne_eq_false_iff_eq.mpr c4
  clear c4
  obtain rfl := Option.some.inj H
  go_enter Tryd.func28, Tryd.ntmps28
  go_wp2
  go_ret
  exact qN
 rw [if_neg c4] at H
 have c4b0 := beq_eq_false_iff_ne.mpr c4
 have c4b1 := bne_iff_ne.mpr c4
 by_cases c5 : a0.toList = ([112, 97, 114, 97, 108, 108, 101, 108] : List UInt8)
 ·rw [if_pos c5] at H
  have c5b0 := beq_iff_eq.mpr c5
  have c5b1 := bne_eq_false_iff_eq.mpr c5
  clear c5
  obtain rfl := Option.some.inj H
  go_enter Tryd.func28, Tryd.ntmps28
  go_wp2
  go_ret
  exact qN
 rw [if_neg c5] at H
 have c5b0 := beq_eq_false_iff_ne.mpr c5
 have c5b1 := bne_iff_ne.mpr c5
 by_cases c6 : a0.toList = ([102, 105, 110, 97, 108] : List UInt8)
 ·rw [if_pos c6] at H
  have c6b0 := beq_iff_eq.mpr c6
  have c6b1 := bne_eq_false_iff_eq.mpr c6
  clear c6
  obtain rfl := Option.some.inj H
  go_enter Tryd.func28, Tryd.ntmps28
  go_wp2
  go_ret
  exact qN
 rw [if_neg c6] at H
 have c6b0 := beq_eq_false_iff_ne.mpr c6
 have c6b1 := bne_iff_ne.mpr c6
 by_cases c7 : a0.toList = ([100, 101, 101, 112] : List UInt8)
 ·rw [if_pos c7] at H
  have c7b0 := beq_iff_eq.mpr c7
  have c7b1 := bne_eq_false_iff_eq.mpr c7
  clear c7
  obtain rfl := Option.some.inj H
  go_enter Tryd.func28, Tryd.ntmps28
  go_wp2
  go_ret
  exact qN
 rw [if_neg c7] at H
 have c7b0 := beq_eq_false_iff_ne.mpr c7
 have c7b1 := bne_iff_ne.mpr c7
 by_cases c8 : a0.toList = ([115, 104, 97, 108, 108, 111, 119] : List UInt8)
 ·rw [if_pos c8] at H
  have c8b0 := beq_iff_eq.mpr c8
  have c8b1 := bne_eq_false_iff_eq.mpr c8
  clear c8
  obtain rfl := Option.some.inj H
  go_enter Tryd.func28, Tryd.ntmps28
  go_wp2
  go_ret
  exact qN
 rw [if_neg c8] at H
 have c8b0 := beq_eq_false_iff_ne.mpr c8
 have c8b1 := bne_iff_ne.mpr c8
 by_cases c9 : a0.toList = ([101, 110, 116, 101, 114] : List UInt8)
 ·rw [if_pos c9] at H
  have c9b0 := beq_iff_eq.mpr c9
  have c9b1 := bne_eq_false_iff_eq.mpr c9
  clear c9
  obtain rfl := Option.some.inj H
  go_enter Tryd.func28, Tryd.ntmps28
  go_wp2
  go_ret
  exact qN
 rw [if_neg c9] at H
 have c9b0 := beq_eq_false_iff_ne.mpr c9
 have c9b1 := bne_iff_ne.mpr c9
 by_cases c10 : a0.toList = ([101, 120, 105, 116] : List UInt8)
 ·rw [if_pos c10] at H
  have c10b0 := beq_iff_eq.mpr c10
  have c10b1 := bne_eq_false_iff_eq.mpr c10
  clear c10
  obtain rfl := Option.some.inj H
  go_enter Tryd.func28, Tryd.ntmps28
  go_wp2
  go_ret
  exact qN
 rw [if_neg c10] at H
 have c10b0 := beq_eq_false_iff_ne.mpr c10
 have c10b1 := bne_iff_ne.mpr c10
 by_cases c11 : a0.toList = ([111, 110] : List UInt8)
 ·rw [if_pos c11] at H
  have c11b0 := beq_iff_eq.mpr c11
  have c11b1 := bne_eq_false_iff_eq.mpr c11
  clear c11
  obtain rfl := Option.some.inj H
  go_enter Tryd.func28, Tryd.ntmps28
  go_wp2
  go_ret
  exact qN
 rw [if_neg c11] at H
 have c11b0 := beq_eq_false_iff_ne.mpr c11
 have c11b1 := bne_iff_ne.mpr c11
 by_cases c12 : a0.toList = ([97, 117, 116, 111] : List UInt8)
 ·rw [if_pos c12] at H
  have c12b0 := beq_iff_eq.mpr c12
  have c12b1 := bne_eq_false_iff_eq.mpr c12
  clear c12
  obtain rfl := Option.some.inj H
  go_enter Tryd.func28, Tryd.ntmps28
  go_wp2
  go_ret
  exact qN
 rw [if_neg c12] at H
 have c12b0 := beq_eq_false_iff_ne.mpr c12
 have c12b1 := bne_iff_ne.mpr c12
 by_cases c13 : a0.toList = ([101, 110, 100] : List UInt8)
 ·rw [if_pos c13] at H
  have c13b0 := beq_iff_eq.mpr c13
  have c13b1 := bne_eq_false_iff_eq.mpr c13
  clear c13
  obtain rfl := Option.some.inj H
  go_enter Tryd.func28, Tryd.ntmps28
  go_wp2
  go_ret
  exact qN
 rw [if_neg c13] at H
 have c13b0 := beq_eq_false_iff_ne.mpr c13
 have c13b1 := bne_iff_ne.mpr c13
 by_cases c14 : a0.toList = ([105, 102] : List UInt8)
 ·rw [if_pos c14] at H
  have c14b0 := beq_iff_eq.mpr c14
  have c14b1 := bne_eq_false_iff_eq.mpr c14
  clear c14
  obtain rfl := Option.some.inj H
  go_enter Tryd.func28, Tryd.ntmps28
  go_wp2
  go_ret
  exact qN
 rw [if_neg c14] at H
 have c14b0 := beq_eq_false_iff_ne.mpr c14
 have c14b1 := bne_iff_ne.mpr c14
 by_cases c15 : a0.toList = ([103, 111] : List UInt8)
 ·rw [if_pos c15] at H
  have c15b0 := beq_iff_eq.mpr c15
  have c15b1 := bne_eq_false_iff_eq.mpr c15
  clear c15
  obtain rfl := Option.some.inj H
  go_enter Tryd.func28, Tryd.ntmps28
  go_wp2
  go_ret
  exact qN
 rw [if_neg c15] at H
 have c15b0 := beq_eq_false_iff_ne.mpr c15
 have c15b1 := bne_iff_ne.mpr c15
 by_cases c16 : a0.toList = ([105, 110, 110, 101, 114] : List UInt8)
 ·rw [if_pos c16] at H
  have c16b0 := beq_iff_eq.mpr c16
  have c16b1 := bne_eq_false_iff_eq.mpr c16
  clear c16
  obtain rfl := Option.some.inj H
  go_enter Tryd.func28, Tryd.ntmps28
  go_wp2
  go_ret
  exact qN
 rw [if_neg c16] at H
 have c16b0 := beq_eq_false_iff_ne.mpr c16
 have c16b1 := bne_iff_ne.mpr c16
 by_cases c17 : a0.toList = ([100, 111] : List UInt8)
 ·rw [if_pos c17] at H
  have c17b0 := beq_iff_eq.mpr c17
  have c17b1 := bne_eq_false_iff_eq.mpr c17
  clear c17
  obtain rfl := Option.some.inj H
  go_enter Tryd.func28, Tryd.ntmps28
  go_wp2
  go_ret
  exact qN
 rw [if_neg c17] at H
 have c17b0 := beq_eq_false_iff_ne.mpr c17
 have c17b1 := bne_iff_ne.mpr c17
 by_cases c18 : a0.toList = ([115, 101, 116] : List UInt8)
 ·rw [if_pos c18] at H
  have c18b0 := beq_iff_eq.mpr c18
  have c18b1 := bne_eq_false_iff_eq.mpr c18
  clear c18
  obtain rfl := Option.some.inj H
  go_enter Tryd.func28, Tryd.ntmps28
  go_wp2
  go_ret
  exact qN
 rw [if_neg c18] at H
 have c18b0 := beq_eq_false_iff_ne.mpr c18
 have c18b1 := bne_iff_ne.mpr c18
 by_cases c19 : a0.toList = ([114, 97, 105, 115, 101] : List UInt8)
 ·rw [if_pos c19] at H
  have c19b0 := beq_iff_eq.mpr c19
  have c19b1 := bne_eq_false_iff_eq.mpr c19
  clear c19
  obtain rfl := Option.some.inj H
  go_enter Tryd.func28, Tryd.ntmps28
  go_wp2
  go_ret
  exact qN
 rw [if_neg c19] at H
 have c19b0 := beq_eq_false_iff_ne.mpr c19
 have c19b1 := bne_iff_ne.mpr c19
 by_cases c20 : a0.toList = ([115, 101, 110, 100] : List UInt8)
 ·rw [if_pos c20] at H
  have c20b0 := beq_iff_eq.mpr c20
  have c20b1 := bne_eq_false_iff_eq.mpr c20
  clear c20
  obtain rfl := Option.some.inj H
  go_enter Tryd.func28, Tryd.ntmps28
  go_wp2
  go_ret
  exact qN
 rw [if_neg c20] at H
 have c20b0 := beq_eq_false_iff_ne.mpr c20
 have c20b1 := bne_iff_ne.mpr c20
 by_cases c21 : a0.toList = ([99, 97, 110, 99, 101, 108] : List UInt8)
 ·rw [if_pos c21] at H
  have c21b0 := beq_iff_eq.mpr c21
  have c21b1 := bne_eq_false_iff_eq.mpr c21
  clear c21
  obtain rfl := Option.some.inj H
  go_enter Tryd.func28, Tryd.ntmps28
  go_wp2
  go_ret
  exact qN
 rw [if_neg c21] at H
 have c21b0 := beq_eq_false_iff_ne.mpr c21
 have c21b1 := bne_iff_ne.mpr c21
 by_cases c22 : a0.toList = ([108, 111, 103] : List UInt8)
 ·rw [if_pos c22] at H
  have c22b0 := beq_iff_eq.mpr c22
  have c22b1 := bne_eq_false_iff_eq.mpr c22
  clear c22
  obtain rfl := Option.some.inj H
  go_enter Tryd.func28, Tryd.ntmps28
  go_wp2
  go_ret
  exact qN
 rw [if_neg c22] at H
 have c22b0 := beq_eq_false_iff_ne.mpr c22
 have c22b1 := bne_iff_ne.mpr c22
 by_cases c23 : a0.toList = ([116, 114, 117, 101] : List UInt8)
 ·rw [if_pos c23] at H
  have c23b0 := beq_iff_eq.mpr c23
  have c23b1 := bne_eq_false_iff_eq.mpr c23
  clear c23
  obtain rfl := Option.some.inj H
  go_enter Tryd.func28, Tryd.ntmps28
  go_wp2
  go_ret
  exact qN
 rw [if_neg c23] at H
 have c23b0 := beq_eq_false_iff_ne.mpr c23
 have c23b1 := bne_iff_ne.mpr c23
 by_cases c24 : a0.toList = ([102, 97, 108, 115, 101] : List UInt8)
 ·rw [if_pos c24] at H
  have c24b0 := beq_iff_eq.mpr c24
  have c24b1 := bne_eq_false_iff_eq.mpr c24
  clear c24
  obtain rfl := Option.some.inj H
  go_enter Tryd.func28, Tryd.ntmps28
  go_wp2
  go_ret
  exact qN
 rw [if_neg c24] at H
 have c24b0 := beq_eq_false_iff_ne.mpr c24
 have c24b1 := bne_iff_ne.mpr c24
 by_cases c25 : a0.toList = ([110, 111, 116] : List UInt8)
 ·rw [if_pos c25] at H
  have c25b0 := beq_iff_eq.mpr c25
  have c25b1 := bne_eq_false_iff_eq.mpr c25
  clear c25
  obtain rfl := Option.some.inj H
  go_enter Tryd.func28, Tryd.ntmps28
  go_wp2
  go_ret
  exact qN
 rw [if_neg c25] at H
 have c25b0 := beq_eq_false_iff_ne.mpr c25
 have c25b1 := bne_iff_ne.mpr c25
 by_cases c26 : a0.toList = ([97, 110, 100] : List UInt8)
 ·rw [if_pos c26] at H
  have c26b0 := beq_iff_eq.mpr c26
  have c26b1 := bne_eq_false_iff_eq.mpr c26
  clear c26
  obtain rfl := Option.some.inj H
  go_enter Tryd.func28, Tryd.ntmps28
  go_wp2
  go_ret
  exact qN
 rw [if_neg c26] at H
 have c26b0 := beq_eq_false_iff_ne.mpr c26
 have c26b1 := bne_iff_ne.mpr c26
 by_cases c27 : a0.toList = ([111, 114] : List UInt8)
 ·rw [if_pos c27] at H
  have c27b0 := beq_iff_eq.mpr c27
  have c27b1 := bne_eq_false_iff_eq.mpr c27
  clear c27
  obtain rfl := Option.some.inj H
  go_enter Tryd.func28, Tryd.ntmps28
  go_wp2
  go_ret
  exact qN
 rw [if_neg c27] at H
 have c27b0 := beq_eq_false_iff_ne.mpr c27
 have c27b1 := bne_iff_ne.mpr c27
 by_cases c28 : a0.toList = ([105, 110] : List UInt8)
 ·rw [if_pos c28] at H
  have c28b0 := beq_iff_eq.mpr c28
  have c28b1 := bne_eq_false_iff_eq.mpr c28
  clear c28
  obtain rfl := Option.some.inj H
  go_enter Tryd.func28, Tryd.ntmps28
  go_wp2
  go_ret
  exact qN
 rw [if_neg c28] at H
 have c28b0 := beq_eq_false_iff_ne.mpr c28
 have c28b1 := bne_iff_ne.mpr c28
 obtain rfl := Option.some.inj H
 go_enter Tryd.func28, Tryd.ntmps28
 go_wp2
 go_ret
 exact qN
def tok_Name.f (k : Nat) (a0 : ByteArray) : Option (Bool) := (tok_Lex.f k a0).bind fun bt268 => (if bt268.2.1 = 0 then (if (bt268.1.length : Int) = 1 then (if 0 < (bt268.1.length : Int) then (if ((rd_T32 bt268.1 0).f0) = 1 then (if ((rd_T32 bt268.1 0).f1).toList = a0.toList then ((tok_Means.f a0).bind fun t275 => (some (!t275))) else (some false)) else (some false)) else (none)) else (some false)) else (some false))
set_option maxHeartbeats 8000000 in
set_option maxRecDepth 100000 in
theorem tok_Name.calls (k : Nat) (a0 : ByteArray) (r : Bool) (w : World) (hL : Laid w) (h : tok_Name.f k a0 = some r) :
  Calls Tryd.prog 26 #[.string a0] w fun e w' => e = .returned (.bool r) ∧ Below w.heap.size w w' := by
 have HB := Aside0.mk (Below.refl w.heap.size w)
 have HLD := Aside0.mk hL
 clear hL
 have H : ((tok_Lex.f k a0).bind fun bt268 => (if bt268.2.1 = 0 then (if (bt268.1.length : Int) = 1 then (if 0 < (bt268.1.length : Int) then (if ((rd_T32 bt268.1 0).f0) = 1 then (if ((rd_T32 bt268.1 0).f1).toList = a0.toList then ((tok_Means.f a0).bind fun t275 => (some (!t275))) else (some false)) else (some false)) else (none)) else (some false)) else (some false))) = some r := h
 clear h
 replace H := Option.bind_eq_some_iff.mp H
 obtain ⟨⟨t268, t269, t270⟩, A20, H⟩ := H
 (try dsimp -simprocs only at H)
 have A2 := Aside0.mk A20
 clear A20
 by_cases c3 : t269 = 0
 ·rw [if_pos c3] at H
  have c3b0 := beq_iff_eq.mpr c3
  have c3b1 := bne_eq_false_iff_eq.mpr c3
  clear c3
  by_cases c4 : (t268.length : Int) = 1
  ·rw [if_pos c4] at H
   have c4b0 := beq_iff_eq.mpr c4
   have c4b1 := bne_eq_false_iff_eq.mpr c4
   clear c4
   by_cases c5 : 0 < (t268.length : Int)
   ·rw [if_pos c5] at H
    have c5b0 := decide_eq_true c5
    have c5b1 : decide (0 < t268.length) = true := decide_eq_true (by omega)
    clear c5
    by_cases c6 : ((rd_T32 t268 0).f0) = 1
    ·rw [if_pos c6] at H; have c6b0 := beq_iff_eq.mpr c6; have c6b1 := bne_eq_false_iff_eq.mpr c6; clear c6
     by_cases c7 : ((rd_T32 t268 0).f1).toList = a0.toList
     ·rw [if_pos c7] at H; have c7b0 := beq_iff_eq.mpr c7; have c7b1 := bne_eq_false_iff_eq.mpr c7; clear c7; replace H := Option.bind_eq_some_iff.mp H; obtain ⟨t275, A80, H⟩ := H; (try dsimp -simprocs only at H); have A8 := Aside0.mk A80; clear A80; obtain rfl := Option.some.inj H
      go_enter Tryd.func26, Tryd.ntmps26
      go_wp2_with (first | ((with_reducible refine gc 20 rfl ?_); refine gl (some 8) #[.string a0] Tryd.func20 ?_; (with_reducible refine (tok_Lex.calls k a0 t268 t269 t270 _ ?side1 A2.out).mono ?_); (case side1 => exact Laid.below HLD.out qB); rintro e w9 ⟨v271, rfl, ho0, hb⟩; refine ⟨_, rfl, ?_⟩; have HO272 := Aside0.mk (Kd.R_lower ho0 (below_size qB)); replace HB := bst hb; (try clear hb); (try clear ho0); obtain ⟨Ao10, co10, eo10⟩ := Kd.R_slice HO272.out; subst eo10; have p273 : 0 ≤ (0 : Int) := (by omega); have q273 : 0 < (t268.length : Int) := qD; obtain ⟨ad273, e273, hx273_0, hx273_1, hx273_2, hx273_3⟩ := at_T32 (Kd.R_reads' HO272.out).2.2 0 p273 q273; cases e273; have qi273 : (0 < t268.length) = True := eq_true (by omega); (try rw [show ((0 : Int)).toNat = 0 from rfl] at hx273_0); (try rw [show 0 * 4 = 0 from rfl] at hx273_0); (try rw [Addr.add_zero'] at hx273_0); (try rw [show ((0 : Int)).toNat = 0 from rfl] at hx273_1); (try rw [show 0 * 4 = 0 from rfl] at hx273_1); (try rw [Addr.add_zero'] at hx273_1); (try rw [show ((0 : Int)).toNat = 0 from rfl] at hx273_2); (try rw [show 0 * 4 = 0 from rfl] at hx273_2); (try rw [Addr.add_zero'] at hx273_2); (try rw [show ((0 : Int)).toNat = 0 from rfl] at hx273_3); (try rw [show 0 * 4 = 0 from rfl] at hx273_3); (try rw [Addr.add_zero'] at hx273_3); replace p273 := eq_true p273; replace q273 := eq_true q273; have p274 : 0 ≤ (0 : Int) := (by omega); have q274 : 0 < (t268.length : Int) := qD; obtain ⟨ad274, e274, hx274_0, hx274_1, hx274_2, hx274_3⟩ := at_T32 (Kd.R_reads' HO272.out).2.2 0 p274 q274; obtain rfl : ad273 = ad274 := (by injection e274); have qi274 : (0 < t268.length) = True := eq_true (by omega); (try rw [show ((0 : Int)).toNat = 0 from rfl] at hx274_0); (try rw [show 0 * 4 = 0 from rfl] at hx274_0); (try rw [Addr.add_zero'] at hx274_0); (try rw [show ((0 : Int)).toNat = 0 from rfl] at hx274_1); (try rw [show 0 * 4 = 0 from rfl] at hx274_1); (try rw [Addr.add_zero'] at hx274_1); (try rw [show ((0 : Int)).toNat = 0 from rfl] at hx274_2); (try rw [show 0 * 4 = 0 from rfl] at hx274_2); (try rw [Addr.add_zero'] at hx274_2); (try rw [show ((0 : Int)).toNat = 0 from rfl] at hx274_3); (try rw [show 0 * 4 = 0 from rfl] at hx274_3); (try rw [Addr.add_zero'] at hx274_3); replace p274 := eq_true p274; replace q274 := eq_true q274) | (go_at_call 28; (with_reducible refine (tok_Means.calls a0 t275 _ A8.out).mono ?_); rintro e w' ⟨rfl, ⟨nd, rfl⟩⟩))
      go_ret; exact ⟨qR, qB⟩
     rw [if_neg c7] at H; have c7b0 := beq_eq_false_iff_ne.mpr c7; have c7b1 := bne_iff_ne.mpr c7; obtain rfl := Option.some.inj H
     go_enter Tryd.func26, Tryd.ntmps26
     go_wp2_with (first | ((with_reducible refine gc 20 rfl ?_); refine gl (some 8) #[.string a0] Tryd.func20 ?_; (with_reducible refine (tok_Lex.calls k a0 t268 t269 t270 _ ?side1 A2.out).mono ?_); (case side1 => exact Laid.below HLD.out qB); rintro e w11 ⟨v271, rfl, ho0, hb⟩; refine ⟨_, rfl, ?_⟩; have HO272 := Aside0.mk (Kd.R_lower ho0 (below_size qB)); replace HB := bst hb; (try clear hb); (try clear ho0); obtain ⟨Ao12, co12, eo12⟩ := Kd.R_slice HO272.out; subst eo12; have p273 : 0 ≤ (0 : Int) := (by omega); have q273 : 0 < (t268.length : Int) := qD; obtain ⟨ad273, e273, hx273_0, hx273_1, hx273_2, hx273_3⟩ := at_T32 (Kd.R_reads' HO272.out).2.2 0 p273 q273; cases e273; have qi273 : (0 < t268.length) = True := eq_true (by omega); (try rw [show ((0 : Int)).toNat = 0 from rfl] at hx273_0); (try rw [show 0 * 4 = 0 from rfl] at hx273_0); (try rw [Addr.add_zero'] at hx273_0); (try rw [show ((0 : Int)).toNat = 0 from rfl] at hx273_1); (try rw [show 0 * 4 = 0 from rfl] at hx273_1); (try rw [Addr.add_zero'] at hx273_1); (try rw [show ((0 : Int)).toNat = 0 from rfl] at hx273_2); (try rw [show 0 * 4 = 0 from rfl] at hx273_2); (try rw [Addr.add_zero'] at hx273_2); (try rw [show ((0 : Int)).toNat = 0 from rfl] at hx273_3); (try rw [show 0 * 4 = 0 from rfl] at hx273_3); (try rw [Addr.add_zero'] at hx273_3); replace p273 := eq_true p273; replace q273 := eq_true q273; have p274 : 0 ≤ (0 : Int) := (by omega); have q274 : 0 < (t268.length : Int) := qD; obtain ⟨ad274, e274, hx274_0, hx274_1, hx274_2, hx274_3⟩ := at_T32 (Kd.R_reads' HO272.out).2.2 0 p274 q274; obtain rfl : ad273 = ad274 := (by injection e274); have qi274 : (0 < t268.length) = True := eq_true (by omega); (try rw [show ((0 : Int)).toNat = 0 from rfl] at hx274_0); (try rw [show 0 * 4 = 0 from rfl] at hx274_0); (try rw [Addr.add_zero'] at hx274_0); (try rw [show ((0 : Int)).toNat = 0 from rfl] at hx274_1); (try rw [show 0 * 4 = 0 from rfl] at hx274_1); (try rw [Addr.add_zero'] at hx274_1); (try rw [show ((0 : Int)).toNat = 0 from rfl] at hx274_2); (try rw [show 0 * 4 = 0 from rfl] at hx274_2); (try rw [Addr.add_zero'] at hx274_2); (try rw [show ((0 : Int)).toNat = 0 from rfl] at hx274_3); (try rw [show 0 * 4 = 0 from rfl] at hx274_3); (try rw [Addr.add_zero'] at hx274_3); replace p274 := eq_true p274; replace q274 := eq_true q274))
     go_ret; exact ⟨qR, qB⟩
    rw [if_neg c6] at H
    have c6b0 := beq_eq_false_iff_ne.mpr c6
    have c6b1 := bne_iff_ne.mpr c6
    obtain rfl := Option.some.inj H
    go_enter Tryd.func26, Tryd.ntmps26
    go_wp2_with (first | ((with_reducible refine gc 20 rfl ?_); refine gl (some 8) #[.string a0] Tryd.func20 ?_; (with_reducible refine (tok_Lex.calls k a0 t268 t269 t270 _ ?side1 A2.out).mono ?_); (case side1 => exact Laid.below HLD.out qB); rintro e w13 ⟨v271, rfl, ho0, hb⟩; refine ⟨_, rfl, ?_⟩; have HO272 := Aside0.mk (Kd.R_lower ho0 (below_size qB)); replace HB := bst hb; (try clear hb); (try clear ho0); obtain ⟨Ao14, co14, eo14⟩ := Kd.R_slice HO272.out; subst eo14; have p273 : 0 ≤ (0 : Int) := (by omega); have q273 : 0 < (t268.length : Int) := qD; obtain ⟨ad273, e273, hx273_0, hx273_1, hx273_2, hx273_3⟩ := at_T32 (Kd.R_reads' HO272.out).2.2 0 p273 q273; cases e273; have qi273 : (0 < t268.length) = True := eq_true (by omega); (try rw [show ((0 : Int)).toNat = 0 from rfl] at hx273_0); (try rw [show 0 * 4 = 0 from rfl] at hx273_0); (try rw [Addr.add_zero'] at hx273_0); (try rw [show ((0 : Int)).toNat = 0 from rfl] at hx273_1); (try rw [show 0 * 4 = 0 from rfl] at hx273_1); (try rw [Addr.add_zero'] at hx273_1); (try rw [show ((0 : Int)).toNat = 0 from rfl] at hx273_2); (try rw [show 0 * 4 = 0 from rfl] at hx273_2); (try rw [Addr.add_zero'] at hx273_2); (try rw [show ((0 : Int)).toNat = 0 from rfl] at hx273_3); (try rw [show 0 * 4 = 0 from rfl] at hx273_3); (try rw [Addr.add_zero'] at hx273_3); replace p273 := eq_true p273; replace q273 := eq_true q273))
    go_ret
    exact ⟨qR, qB⟩
   rw [if_neg c5] at H
   exact absurd H (by simp)
  rw [if_neg c4] at H
  have c4b0 := beq_eq_false_iff_ne.mpr c4
  have c4b1 := bne_iff_ne.mpr c4
  obtain rfl := Option.some.inj H
  go_enter Tryd.func26, Tryd.ntmps26
  go_wp2_with (first | ((with_reducible refine gc 20 rfl ?_); refine gl (some 8) #[.string a0] Tryd.func20 ?_; (with_reducible refine (tok_Lex.calls k a0 t268 t269 t270 _ ?side1 A2.out).mono ?_); (case side1 => exact Laid.below HLD.out qB); rintro e w15 ⟨v271, rfl, ho0, hb⟩; refine ⟨_, rfl, ?_⟩; have HO272 := Aside0.mk (Kd.R_lower ho0 (below_size qB)); replace HB := bst hb; (try clear hb); (try clear ho0); obtain ⟨Ao16, co16, eo16⟩ := Kd.R_slice HO272.out; subst eo16))
  go_ret
  exact ⟨qR, qB⟩
 rw [if_neg c3] at H
 have c3b0 := beq_eq_false_iff_ne.mpr c3
 have c3b1 := bne_iff_ne.mpr c3
 obtain rfl := Option.some.inj H
 go_enter Tryd.func26, Tryd.ntmps26
 go_wp2_with (first | ((with_reducible refine gc 20 rfl ?_); refine gl (some 8) #[.string a0] Tryd.func20 ?_; (with_reducible refine (tok_Lex.calls k a0 t268 t269 t270 _ ?side1 A2.out).mono ?_); (case side1 => exact Laid.below HLD.out qB); rintro e w17 ⟨v271, rfl, ho0, hb⟩; refine ⟨_, rfl, ?_⟩; have HO272 := Aside0.mk (Kd.R_lower ho0 (below_size qB)); replace HB := bst hb; (try clear hb); (try clear ho0)))
 go_ret
 exact ⟨qR, qB⟩
end Go.Proofs.YtbngfhlciebeeaaDoor.L
end
section
namespace Go.Proofs.YtbngfhlciebeeaaDoor.Sp
set_option linter.unusedVariables false
set_option linter.unusedSimpArgs false
open Go.RowKit Go.Proofs.YtbngfhlciebeeaaDoor.L Go.Proofs.YtbngfhlciebeeaaDoorW.PrintWords
def meanWords : List (List UInt8) := [[99, 104, 97, 114, 116], [118, 97, 114], [115, 116, 97, 116, 101], [112, 97, 114, 97, 108, 108, 101, 108], [102, 105, 110, 97, 108], [100, 101, 101, 112], [115, 104, 97, 108, 108, 111, 119], [101, 110, 116, 101, 114], [101, 120, 105, 116], [111, 110], [97, 117, 116, 111], [101, 110, 100], [105, 102], [103, 111], [105, 110, 110, 101, 114], [100, 111], [115, 101, 116], [114, 97, 105, 115, 101], [115, 101, 110, 100], [99, 97, 110, 99, 101, 108], [108, 111, 103], [116, 114, 117, 101], [102, 97, 108, 115, 101], [110, 111, 116], [97, 110, 100], [111, 114], [105, 110]]
theorem if_mem {x w : List UInt8} {ws : List (List UInt8)} {r : Option Bool} (h : r = some (decide (x ∈ ws))) : (if x = w then some true else r) = some (decide (x ∈ w :: ws)) := by
  by_cases hx : x = w
  · rw [if_pos hx, decide_eq_true (by rw [hx]; exact List.mem_cons_self)]
  · rw [if_neg hx, h]
    simp [hx]
theorem tMeans_eq (s : ByteArray) : tok_Means.f s = some (decide (s.data.toList ∈ meanWords)) := by
  have key : ∀ x : List UInt8, s.toList = x → tok_Means.f s = some (decide (x ∈ meanWords)) := fun x hx => by
    unfold tok_Means.f meanWords
    rw [hx]
    repeat' first
      | exact rfl
      | refine if_mem ?_
  exact key _ (ByteArray.toList_eq s)
theorem takeWhile_all {p : UInt8 → Bool} : ∀ (L : List UInt8), L.all p = true → L.takeWhile p = L
  | [], _ => rfl
  | c :: L, h => by
    simp only [List.all_cons, Bool.and_eq_true] at h
    rw [List.takeWhile_cons_of_pos h.1, takeWhile_all L h.2]
theorem pend_all {p : UInt8 → Bool} (L : List UInt8) : pend p L 0 = L.length ↔ L.all p = true := by
  unfold pend
  rw [List.drop_zero, Nat.zero_add]
  constructor
  · intro h
    rw [← (List.takeWhile_prefix p).eq_of_length h]
    exact List.all_takeWhile
  · intro h
    rw [takeWhile_all L h]
def nameT (s : ByteArray) : Bool := match lex s.data.toList with
  | ([t], e, _) => decide (e = 0) && decide (t.kind = 1) && decide (t.text = s.data.toList) && !decide (s.data.toList ∈ meanWords)
  | _ => false
theorem text_eq' (t : List UInt8) (s : ByteArray) : ((⟨t.toArray⟩ : ByteArray).toList = s.toList) ↔ t = s.data.toList := by
  rw [ByteArray.toList_eq, ByteArray.toList_eq]
theorem Name_ev (s : ByteArray) (hs : s.size ≤ 140737488351232) : Ev (fun k => tok_Name.f k s) (nameT s) := by
  unfold tok_Name.f nameT
  refine Ev.bind (Lex_ev s (by omega)) ?_
  generalize lex s.data.toList = x at *
  obtain ⟨ts, e, p⟩ := x
  dsimp only
  by_cases he : e = 0
  · refine Ev.pos he ?_
    rcases ts with _ | ⟨t, _ | ⟨t2, ts⟩⟩
    · exact Ev.neg (by simp) (Ev.some rfl)
    · refine Ev.pos (by simp) (Ev.pos (by simp) ?_)
      rw [show rd_T32 (List.map Tk.s32 [t]) 0 = t.s32 from rfl]
      have hx := text_eq' t.text s
      by_cases hk1 : t.kind = 1
      · refine Ev.pos hk1 ?_
        by_cases ht : t.text = s.data.toList
        · refine Ev.pos (hx.2 ht) (Ev.bind_some (tMeans_eq s) (Ev.some ?_))
          dsimp only
          rw [decide_eq_true he, decide_eq_true hk1, decide_eq_true ht]; rfl
        · refine Ev.neg (fun h => ht (hx.1 h)) (Ev.some ?_)
          dsimp only
          rw [decide_eq_false ht]; simp
      · refine Ev.neg hk1 (Ev.some ?_)
        dsimp only
        rw [decide_eq_false hk1]
        simp
    · exact Ev.neg (by simp; omega) (Ev.some rfl)
  · refine Ev.neg he (Ev.some ?_)
    rcases ts with _ | ⟨t, _ | ⟨t2, ts⟩⟩
    · rfl
    · dsimp only; rw [decide_eq_false he]; rfl
    · rfl
end Go.Proofs.YtbngfhlciebeeaaDoor.Sp
end
section
namespace Go.Proofs.YtbngfhlciebeeaaDoor.Opn
set_option linter.unusedVariables false
set_option linter.unusedSimpArgs false
open Go.RowKit Go.ChangeShapes Go.WideShapes Go.Proofs.YtbngfhlciebeeaaDoorW.PrintWords
section
variable {H : Type} {enc : TypeId × Value → H} {P : Program} {w : World} {base : Nat} {sp : Nat → Bool} {held : Bool} {α β : Type}
def Opens (enc : TypeId × Value → H) (P : Program) (w : World) (base : Nat) (sp : Nat → Bool) (held : Bool) (T : TypeId) (kd : Kd α) (ok : α → Prop) : Prop :=
  ∀ (n : Nat) (cs : List Value) (y : DataW H × List MemPlace), DataW.trod enc P w base sp held n T cs = some y → ∃ x, kd.K w x cs ∧ ok x
theorem opens_int {T : TypeId} {k : IntKind} (hu : P.underlying T = some (.int k)) : Opens enc P w base sp held T (Kd.int k) (fun n => (Lit.int k n).wf = true) := fun (n : Nat) (cs : List Value) y h => by
  obtain ⟨x, rfl, _, hw⟩ := DataW.trod_int hu h
  exact ⟨x, rfl, hw⟩
theorem opens_imp {T : TypeId} {kd : Kd α} {ok ok2 : α → Prop} (hi : ∀ x, ok x → ok2 x) (h : Opens enc P w base sp held T kd ok) : Opens enc P w base sp held T kd ok2 := fun n cs y hy => by
  obtain ⟨x, hx, ho⟩ := h n cs y hy
  exact ⟨x, hx, hi x ho⟩
theorem choose_list {p : Nat → α → Prop} : ∀ (n : Nat), (∀ i, i < n → ∃ x, p i x) → ∃ l : List α, l.length = n ∧ ∀ i x, l[i]? = some x → p i x
  | 0, _ => ⟨[], rfl, by simp⟩
  | n + 1, h => by
    obtain ⟨l, hl, hp⟩ := choose_list n (fun i hi => h i (by omega))
    obtain ⟨x, hx⟩ := h n (by omega)
    refine ⟨l ++ [x], by simp [hl], fun i y hy => ?_⟩
    by_cases hi : i < n
    · rw [List.getElem?_append_left (by omega)] at hy
      exact hp i y hy
    · rw [List.getElem?_append_right (by omega)] at hy
      have h1 : i = n := by
        have := (List.getElem?_eq_some_iff.1 hy).1
        simp at this
        omega
      subst h1
      rw [hl, Nat.sub_self] at hy
      simp at hy
      subst hy
      exact hx
theorem cells?_get {a : Addr} {n : Nat} {cs : List Value} (h : w.cells? base a n = some cs) : cs.length = n ∧ ∀ i u, cs[i]? = some u → w.cell? (a.add i) = some u := by
  unfold World.cells? at h
  split at h
  · have hl := Lib.mapM_length h
    simp at hl
    refine ⟨hl, fun i u hu => ?_⟩
    have hi : i < cs.length := (List.getElem?_eq_some_iff.1 hu).1
    obtain ⟨b, hb, hf⟩ := Lib.mapM_at h i i (by rw [List.getElem?_range (by omega)])
    rw [hu] at hb
    obtain rfl := Option.some.inj hb
    exact hf
  · cases h
end
def I64 (n : Int) : Prop := -9223372036854775808 ≤ n ∧ n ≤ 9223372036854775807
theorem i64_of {n : Int} (h : (Lit.int .i64 n).wf = true) : I64 n := bounds_i64 h
section
variable {H : Type} {enc : TypeId × Value → H} {w : World} {base : Nat} {sp : Nat → Bool} {held : Bool}
theorem opens3 : Opens enc Tryd.prog w base sp held 3 (Kd.int .i64) I64 := opens_imp (fun _ h => i64_of h) (opens_int Tryd.underlying3)
theorem opens2 : Opens enc Tryd.prog w base sp held 2 (Kd.int .i64) I64 := opens_imp (fun _ h => i64_of h) (opens_int Tryd.underlying2)
end
end Go.Proofs.YtbngfhlciebeeaaDoor.Opn
end
