/- Printed and hand-written steps towards the row (TokPlaces), those that it reaches. -/
import Derived.Test.YtbngfhlciebeeaaDoorTokPlacesPureTokLexes
import Derived.Test.YtbngfhlciebeeaaDoorTokPlacesLxf4
import Derived.KernelRfl
namespace Go.Proofs.YtbngfhlciebeeaaDoor.Sp
set_option linter.unusedVariables false
set_option linter.unusedSimpArgs false
open Go.RowKit Go.Proofs.YtbngfhlciebeeaaDoor.L Go.Proofs.YtbngfhlciebeeaaDoorW.PrintWords
def Tk.raw (t : Tk) : List UInt8 := if t.kind = 4 then [39] ++ t.text ++ [39] else t.text
def Chain (L : List UInt8) : Nat → List Tk → Prop
  | i, [] => (L.drop i).all blankB = true
  | i, t :: ts => i ≤ t.pos ∧ t.pos + t.raw.length ≤ L.length ∧ cut L t.pos (t.pos + t.raw.length) = t.raw ∧ (cut L i t.pos).all blankB = true ∧ Chain L (t.pos + t.raw.length) ts
theorem pathGo_kind (L : List UInt8) : ∀ (f e : Nat) (k k' : Int) (e' : Nat), k = 1 ∨ k = 2 → pathGo L f e k = some (k', e') → k' = 1 ∨ k' = 2
  | 0, _, _, _, _, _, h => by simp [pathGo] at h
  | f + 1, e, k, k', e', he, h => by
    unfold pathGo at h
    split at h
    · split at h
      · cases h
      · exact pathGo_kind L f _ 2 k' e' (Or.inr rfl) h
    · simp only [Option.some.injEq, Prod.mk.injEq] at h
      omega
theorem cut_quote {L : List UInt8} {i E : Nat} (h : i < L.length) (hq : (L.getD i 0).toNat = 39) (hE : i + 1 ≤ E) (hE2 : E < L.length) (hr : (L.getD E 0).toNat = 39) : cut L i (E + 1) = [39] ++ cut L (i + 1) E ++ [39] := by
  have h1 : L.getD i 0 = 39 := UInt8.toNat_inj.1 hq
  have h2 : L.getD E 0 = 39 := UInt8.toNat_inj.1 hr
  rw [← cut_append (show i ≤ E by omega) (show E ≤ E + 1 by omega), ← cut_append (show i ≤ i + 1 by omega) hE, cut_one h, cut_one hE2, h1, h2]
theorem tokenAt_raw {L : List UInt8} {i : Nat} (hi : i < L.length) {k : Int} {t : List UInt8} {n : Int} {e : Nat} (h : tokenAt L i = .ok (k, t, n, e)) (pos : Nat) :
    e = i + (Tk.raw ⟨k, t, n, pos⟩).length ∧ cut L i e = Tk.raw ⟨k, t, n, pos⟩ := by
  have hle := tokenAt_le hi h
  suffices hc : cut L i e = Tk.raw ⟨k, t, n, pos⟩ by
    refine ⟨?_, hc⟩
    rw [← hc, cut_length hle.2]; omega
  unfold tokenAt at h
  unfold Tk.raw
  dsimp only
  split at h
  · split at h
    · cases h
    · split at h
      · cases h
      · rename_i k' e' hp
        have hk := pathGo_kind L _ _ _ _ _ (Or.inl rfl) hp
        split at h
        · cases h
        · simp only [Except.ok.injEq, Prod.mk.injEq] at h
          obtain ⟨rfl, rfl, _, rfl⟩ := h
          rw [if_neg (by omega)]
  · split at h
    · split at h
      · cases h
      · split at h
        · cases h
        · simp only [Except.ok.injEq, Prod.mk.injEq] at h
          obtain ⟨rfl, rfl, _, rfl⟩ := h
          rw [if_neg (by decide)]
    · split at h
      · rename_i hq
        split at h
        · cases h
        · rename_i hE
          split at h
          · cases h
          · split at h
            · simp only [Except.ok.injEq, Prod.mk.injEq] at h
              obtain ⟨rfl, rfl, _, rfl⟩ := h
              rw [if_pos rfl]
              have hn := pend_not (p := noQuoteB) (L := L) (i := i + 1) (by omega)
              refine cut_quote hi hq (le_pend _ _ _) (by omega) ?_
              have hn2 : ((L.getD (pend noQuoteB L (i + 1)) 0).toNat != 39) = false := hn
              simpa using hn2
            · cases h
      · split at h
        · rename_i g hg
          have h2 := List.isPrefixOf_iff_prefix.1 (signFind_mem hg).2
          simp only [Except.ok.injEq, Prod.mk.injEq] at h
          obtain ⟨rfl, rfl, _, rfl⟩ := h
          rw [if_neg (by decide)]
          unfold cut
          rw [List.drop_take, Nat.add_sub_cancel_left]
          exact (List.prefix_iff_eq_take.1 h2).symm
        · cases h
theorem tokenAt_err {L : List UInt8} {i : Nat} {e : Int} (h : tokenAt L i = .error e) : e ≠ 0 := by
  unfold tokenAt at h
  repeat' split at h
  all_goals first
    | (cases h; done)
    | (simp only [Except.error.injEq] at h; omega)
theorem chain_lex (L : List UInt8) : ∀ (f i : Nat) (out : List Tk), i ≤ L.length → (lexGo L f i out).2.1 = 0 → ∃ ts, (lexGo L f i out).1 = out ++ ts ∧ Chain L i ts
  | 0, i, out, hi, h => by simp [lexGo] at h
  | f + 1, i, out, hi, h => by
    have hp := le_pend blankB L i
    have hq := pend_le (p := blankB) (L := L) (i := i) (by omega)
    have hall : (cut L i (pend blankB L i)).all blankB = true := by rw [cut_pend]; exact List.all_takeWhile
    simp only [lexGo] at h ⊢
    split at h
    · rename_i h1
      rw [if_pos h1]
      refine ⟨[], by simp, ?_⟩
      have h2 : cut L i (pend blankB L i) = L.drop i := by unfold cut; rw [List.take_of_length_le (by omega)]
      rw [h2] at hall
      exact hall
    · rename_i h1
      rw [if_neg h1]
      split at h
      · simp at h
      · rename_i h2
        rw [if_neg h2]
        cases ht : tokenAt L (pend blankB L i) with
        | error e =>
          rw [ht] at h
          exact absurd h (tokenAt_err ht)
        | ok x =>
          obtain ⟨k, t, n, e⟩ := x
          rw [ht] at h
          dsimp only at h ⊢
          have hle := tokenAt_le (by omega) ht
          obtain ⟨ts, h3, h4⟩ := chain_lex L f e _ hle.2 h
          obtain ⟨h5, h6⟩ := tokenAt_raw (by omega) ht (pend blankB L i)
          refine ⟨⟨k, t, n, pend blankB L i⟩ :: ts, by rw [h3]; simp, hp, ?_, ?_, hall, ?_⟩
          · dsimp only; omega
          · dsimp only; rw [← h5]; exact h6
          · dsimp only; rw [← h5]; exact h4
theorem lexGo_err (L : List UInt8) : ∀ (f i : Nat) (out : List Tk), (lexGo L f i out).2.1 ≠ 0 → (lexGo L f i out).1 = []
  | 0, i, out, h => rfl
  | f + 1, i, out, h => by
    simp only [lexGo] at h ⊢
    split at h
    · exact absurd rfl h
    · rename_i h1
      rw [if_neg h1]
      split at h
      · rename_i h2
        rw [if_pos h2]
      · rename_i h2
        rw [if_neg h2]
        cases ht : tokenAt L (pend blankB L i) with
        | error e => rfl
        | ok x =>
          obtain ⟨k, t, n, e⟩ := x
          rw [ht] at h
          exact lexGo_err L f e _ h
theorem blank02_l (s : ByteArray) (hs : s.size ≤ 1000000000000) (d : Nat) : ∀ i, i ≤ s.size → s.size - i = d → Ev (fun k => whirligiglaw02_blank.l0 k s (s.size : Int) (i : Int)) ((s.data.toList.drop i).all blankB) := by
  have hl := len_size s
  induction d with
  | zero =>
    intro i h0 h1
    refine Ev.succ ?_
    simp only [whirligiglaw02_blank.l0]
    refine Ev.neg (by omega) (Ev.some ?_)
    rw [List.drop_eq_nil_of_le (by omega)]; rfl
  | succ d ih =>
    intro i h0 h1
    refine Ev.succ ?_
    simp only [whirligiglaw02_blank.l0]
    refine Ev.pos (by omega) (Ev.pos (by omega) (Ev.pos (by omega) ?_))
    rw [bt_nat s i (by omega), drop_at (by omega), List.all_cons, wrap_at (by omega) (by omega)]
    by_cases hb : (s.data.toList.getD i 0).toNat = 32
    · rw [show blankB (s.data.toList.getD i 0) = true from by unfold blankB; simp only [beq_iff_eq]; exact hb, Bool.true_and]
      exact Ev.pos (by omega) (ih (i + 1) (by omega) (by omega))
    · rw [show blankB (s.data.toList.getD i 0) = false from by unfold blankB; simp only [beq_eq_false_iff_ne]; exact hb, Bool.false_and]
      exact Ev.neg (by omega) (Ev.some rfl)
theorem blank02_ev (s : ByteArray) (hs : s.size ≤ 1000000000000) : Ev (fun k => whirligiglaw02_blank.f k s) (s.data.toList.all blankB) := by
  unfold whirligiglaw02_blank.f
  exact blank02_l s hs _ 0 (by omega) rfl
theorem places_l (s : ByteArray) (hs : s.size ≤ 1000000) (ts : List Tk) (hn : ts.length ≤ 1000000) (d : Nat) : ∀ (j i : Nat), j ≤ ts.length → ts.length - j = d → i ≤ s.size → Chain s.data.toList i (ts.drop j) →
    Ev (fun k => whirligiglaw02_TokPlaces.l0 k s (i : Int) (ts.map Tk.s32) (((ts.map Tk.s32).length : Nat) : Int) (j : Int)) true := by
  have h1 : (ts.map Tk.s32).length = ts.length := List.length_map ..
  have hl := len_size s
  induction d with
  | zero =>
    intro j i hj hd hi hc
    rw [List.drop_eq_nil_of_le (by omega)] at hc
    refine Ev.succ ?_
    simp only [whirligiglaw02_TokPlaces.l0]
    refine Ev.neg (by omega) (Ev.pos (by omega) (Ev.pos (by omega) ?_))
    rw [Int.toNat_natCast]
    refine Ev.bind (a := true) ?_ (Ev.some rfl)
    have hb := blank02_ev (s.extract i s.size) (by rw [ext_size (by omega)]; omega)
    have he : (s.extract i s.size).data.toList.all blankB = true := by
      rw [ext_data]
      unfold cut
      rw [List.take_of_length_le (by omega)]
      exact hc
    rw [he] at hb
    exact hb
  | succ d ih =>
    intro j i hj hd hi hc
    have hjt : j < ts.length := by omega
    rw [List.drop_eq_getElem_cons hjt] at hc
    have e1 : rd_T32 (ts.map Tk.s32) (j : Int) = Tk.s32 ts[j] := by
      unfold rd_T32
      simp [List.getD_eq_getElem?_getD, hjt]
    refine Ev.succ ?_
    simp only [whirligiglaw02_TokPlaces.l0]
    rw [e1]
    generalize ts[j] = t at *
    obtain ⟨hc1, hc2, hc3, hc4, hc5⟩ := hc
    have hsz : (Tk.s32 t).f1.size = t.text.length := size_mk t.text
    have hf3 : (Tk.s32 t).f3 = (t.pos : Int) := rfl
    have hb := blank02_ev (s.extract i t.pos) (by rw [ext_size (by omega)]; omega)
    rw [ext_data, hc4] at hb
    have hnext := ih (j + 1) (t.pos + t.raw.length) (by omega) (by omega) (by omega) hc5
    refine Ev.pos (by omega) (Ev.pos (by omega) (Ev.pos (by omega) ?_))
    have hfin : ∀ c : Int, c = t.pos + t.raw.length → Ev (fun k => if 0 ≤ (i : Int) then (if (i : Int) ≤ (Tk.s32 t).f3 then (if (Tk.s32 t).f3 ≤ (s.size : Int) then ((whirligiglaw02_blank.f k (s.extract (i : Int).toNat ((Tk.s32 t).f3).toNat)).bind fun t244 => (if t244 = true then (whirligiglaw02_TokPlaces.l0 k s c (ts.map Tk.s32) (((ts.map Tk.s32).length : Nat) : Int) (wrap64 ((j : Int) + 1))) else (some false))) else none) else none) else none) true := fun c hcc => by
      refine Ev.pos (by omega) (Ev.pos (by omega) (Ev.pos (by omega) ?_))
      rw [hf3, Int.toNat_natCast, Int.toNat_natCast, wrap_at (by omega) (by omega), hcc]
      exact Ev.bind hb (Ev.pos rfl hnext)
    by_cases hk : t.kind = 4
    · have hraw : t.raw = [39] ++ t.text ++ [39] := if_pos hk
      have hrl : t.raw.length = t.text.length + 2 := by rw [hraw]; simp
      refine Ev.pos hk (Ev.pos (by omega) (Ev.pos (by omega) (Ev.neg (by omega) (Ev.neg ?_ (Ev.pos (by omega) (Ev.pos ?_ (Ev.pos ?_ (Ev.pos ?_ (hfin _ ?_)))))))))
      · rw [wrap_at (by omega) (by omega)]; omega
      · rw [wrap_at (by omega) (by omega)]; omega
      · rw [wrap_at (by omega) (by omega)]; omega
      · rw [wrap_at (by omega) (by omega), hf3, hsz, show ((t.pos : Int) + (1 + (t.text.length : Int) + 1)).toNat = t.pos + t.raw.length from by omega, Int.toNat_natCast, ext_list, hc3, hraw]
        show _ = ByteArray.toList (((⟨([39] : List UInt8).toArray⟩ : ByteArray) ++ ⟨t.text.toArray⟩) ++ ⟨([39] : List UInt8).toArray⟩)
        rw [mk_append, mk_append]
      · rw [wrap_at (by omega) (by omega)]; omega
    · have hraw : t.raw = t.text := if_neg hk
      have hrl : t.raw.length = t.text.length := by rw [hraw]
      refine Ev.neg hk (Ev.neg (by omega) (Ev.neg ?_ (Ev.pos (by omega) (Ev.pos ?_ (Ev.pos ?_ (Ev.pos ?_ (hfin _ ?_)))))))
      · rw [wrap_at (by omega) (by omega)]; omega
      · rw [wrap_at (by omega) (by omega)]; omega
      · rw [wrap_at (by omega) (by omega)]; omega
      · rw [wrap_at (by omega) (by omega), hf3, hsz, show ((t.pos : Int) + (t.text.length : Int)).toNat = t.pos + t.raw.length from by omega, Int.toNat_natCast, ext_list, hc3, hraw]
        rfl
      · rw [wrap_at (by omega) (by omega)]; omega
theorem TokPlaces_ev (s : ByteArray) (hs : s.size ≤ 140737488351232) : Ev (fun k => whirligiglaw02_TokPlaces.f k s) true := by
  unfold whirligiglaw02_TokPlaces.f
  refine Ev.bind anchor02_ev (Ev.pos rfl ?_)
  by_cases h : (s.size : Int) > 1000
  · exact Ev.pos h (Ev.some rfl)
  · refine Ev.neg h (Ev.bind (Lex_ev s (by omega)) ?_)
    dsimp only
    by_cases h0 : (lex s.data.toList).2.1 = 0
    · refine Ev.pos h0 ?_
      obtain ⟨ts, h1, h2⟩ := chain_lex s.data.toList _ 0 [] (by omega) h0
      have h3 : (lex s.data.toList).1 = ts := by
        rw [show (lex s.data.toList).1 = _ from h1]; simp
      have h4 := lex_len s.data.toList
      rw [h3] at h4 ⊢
      exact places_l s (by omega) ts (by omega) _ 0 0 (by omega) rfl (by omega) (by simpa using h2)
    · refine Ev.neg h0 (Ev.some ?_)
      rw [show (lex s.data.toList).1 = [] from lexGo_err _ _ _ _ h0]
      rfl
end Go.Proofs.YtbngfhlciebeeaaDoor.Sp
