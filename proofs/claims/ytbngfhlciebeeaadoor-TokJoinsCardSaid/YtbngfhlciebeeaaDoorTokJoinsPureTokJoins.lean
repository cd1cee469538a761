/- Printed and hand-written steps towards the row (TokJoins), those that it reaches. -/
import Derived.Test.YtbngfhlciebeeaaDoorTokJoinsJoinLaws
import Derived.Test.YtbngfhlciebeeaaDoorTokJoinsLxf31
import Derived.KernelRfl
namespace Go.Proofs.YtbngfhlciebeeaaDoor.Sp
set_option linter.unusedVariables false
set_option linter.unusedSimpArgs false
open Go.RowKit Go.Proofs.YtbngfhlciebeeaaDoor.L Go.Proofs.YtbngfhlciebeeaaDoorW.PrintWords
theorem rjoin_l (ts : List Tk) (hn : ts.length ≤ 1000000) (d : Nat) : ∀ (j : Nat) (acc : List UInt8), j ≤ ts.length → ts.length - j = d → acc.length + (outB (decide (0 < j)) (ts.drop j)).length ≤ 1000000 →
    Ev (fun k => whirligigref02_Join.l0 k (ts.map Tk.s31) ⟨acc.toArray⟩ (j : Int)) ⟨(acc ++ outB (decide (0 < j)) (ts.drop j)).toArray⟩ := by
  have h1 : (ts.map Tk.s31).length = ts.length := List.length_map ..
  induction d with
  | zero =>
    intro j acc hj hd hl
    refine Ev.succ ?_
    simp only [whirligigref02_Join.l0]
    refine Ev.neg (by omega) (Ev.some ?_)
    rw [List.drop_eq_nil_of_le (by omega)]
    simp [outB]
  | succ d ih =>
    intro j acc hj hd hl
    have hjt : j < ts.length := by omega
    have e1 : rd_T31 (ts.map Tk.s31) (j : Int) = Tk.s31 ts[j] := by
      unfold rd_T31
      simp [List.getD_eq_getElem?_getD, hjt]
    rw [List.drop_eq_getElem_cons hjt] at hl ⊢
    refine Ev.succ ?_
    simp only [whirligigref02_Join.l0]
    rw [e1, wrap_at (by omega) (by omega), size_mk]
    generalize ts[j] = t at *
    have hsz : (Tk.s31 t).f1.size = t.text.length := size_mk t.text
    simp only [outB, List.length_append] at hl
    have hkey : ∀ acc2 : List UInt8, acc2 = acc ++ ((if decide (0 < j) = true then [32] else []) ++ t.raw) →
        Ev (fun k => whirligigref02_Join.l0 k (ts.map Tk.s31) ⟨acc2.toArray⟩ ((j + 1 : Nat) : Int)) ⟨(acc ++ outB (decide (0 < j)) (t :: ts.drop (j + 1))).toArray⟩ := fun acc2 he => by
      have h2 := ih (j + 1) acc2 (by omega) (by omega) (by
        rw [he, show decide (0 < j + 1) = true from decide_eq_true (by omega)]
        simp only [List.length_append]
        omega)
      rw [show decide (0 < j + 1) = true from decide_eq_true (by omega), he] at h2
      simp only [outB]
      rw [show acc ++ ((if decide (0 < j) = true then [32] else []) ++ (t.raw ++ outB true (List.drop (j + 1) ts))) = acc ++ ((if decide (0 < j) = true then [32] else []) ++ t.raw) ++ outB true (List.drop (j + 1) ts) from by simp only [List.append_assoc], ← he]
      rw [← he] at h2
      exact h2
    have hb : ∀ (a : List UInt8) (c : UInt8), (⟨a.toArray⟩ : ByteArray) ++ (⟨#[c]⟩ : ByteArray) = ⟨(a ++ [c]).toArray⟩ := fun a c => mk_append a [c]
    have hf1 : (Tk.s31 t).f1 = ⟨t.text.toArray⟩ := rfl
    refine Ev.pos (by omega) ?_
    by_cases h0 : 0 < j
    · rw [decide_eq_true h0] at hl hkey ⊢
      simp only [if_true, List.length_cons, List.length_nil] at hl
      refine Ev.pos (by omega) (Ev.pos (by omega) (Ev.pos (by omega) ?_))
      by_cases hk : t.kind = 4
      · have hraw : t.raw = [39] ++ t.text ++ [39] := if_pos hk
        have hrl : t.raw.length = t.text.length + 2 := by rw [hraw]; simp
        refine Ev.pos hk (Ev.pos (by omega) (Ev.pos (by omega) (Ev.pos (by omega) ?_)))
        rw [hf1, hb, hb, mk_append, hb]
        exact hkey _ (by rw [hraw]; simp)
      · have hraw : t.raw = t.text := if_neg hk
        have hrl : t.raw.length = t.text.length := by rw [hraw]
        refine Ev.neg hk (Ev.pos (by omega) ?_)
        rw [hf1, hb, mk_append]
        exact hkey _ (by rw [hraw]; simp)
    · rw [decide_eq_false h0] at hl hkey ⊢
      refine Ev.neg (by omega) (Ev.pos (by omega) ?_)
      by_cases hk : t.kind = 4
      · have hraw : t.raw = [39] ++ t.text ++ [39] := if_pos hk
        have hrl : t.raw.length = t.text.length + 2 := by rw [hraw]; simp
        refine Ev.pos hk (Ev.pos (by omega) (Ev.pos (by omega) (Ev.pos (by omega) ?_)))
        rw [hf1, hb, mk_append, hb]
        exact hkey _ (by rw [hraw]; simp)
      · have hraw : t.raw = t.text := if_neg hk
        have hrl : t.raw.length = t.text.length := by rw [hraw]
        refine Ev.neg hk (Ev.pos (by omega) ?_)
        rw [hf1, mk_append]
        exact hkey _ (by rw [hraw]; simp)
theorem rjoin_ev (ts : List Tk) (hn : ts.length ≤ 1000000) (hl : (outB false ts).length ≤ 1000000) : Ev (fun k => whirligigref02_Join.f k (ts.map Tk.s31)) ⟨(outB false ts).toArray⟩ := by
  unfold whirligigref02_Join.f
  have h := rjoin_l ts hn _ 0 [] (by omega) rfl (by simpa using hl)
  simpa using h
theorem joins_l (ts ts' : List Tk) (hn : ts.length ≤ 1000000) (hl : ts'.length = ts.length) (hk : ∀ (j : Nat) (t t' : Tk), ts[j]? = some t → ts'[j]? = some t' → t'.kind = t.kind ∧ t'.text = t.text ∧ t'.n = t.n) (d : Nat) : ∀ j, j ≤ ts.length → ts.length - j = d →
    Ev (fun k => whirligiglaw02_TokJoins.l0 k (ts.map Tk.s32) (ts'.map Tk.s32) (((ts.map Tk.s32).length : Nat) : Int) (j : Int)) true := by
  have h1 : (ts.map Tk.s32).length = ts.length := List.length_map ..
  have h2 : (ts'.map Tk.s32).length = ts'.length := List.length_map ..
  induction d with
  | zero =>
    intro j hj hd
    refine Ev.succ ?_
    simp only [whirligiglaw02_TokJoins.l0]
    exact Ev.neg (by omega) (Ev.some rfl)
  | succ d ih =>
    intro j hj hd
    have hjt : j < ts.length := by omega
    have hjt' : j < ts'.length := by omega
    have e1 : rd_T32 (ts.map Tk.s32) (j : Int) = Tk.s32 ts[j] := by
      unfold rd_T32
      simp [List.getD_eq_getElem?_getD, hjt]
    have e2 : rd_T32 (ts'.map Tk.s32) (j : Int) = Tk.s32 ts'[j] := by
      unfold rd_T32
      simp [List.getD_eq_getElem?_getD, hjt']
    obtain ⟨k1, k2, k3⟩ := hk j ts[j] ts'[j] (List.getElem?_eq_getElem hjt) (List.getElem?_eq_getElem hjt')
    refine Ev.succ ?_
    simp only [whirligiglaw02_TokJoins.l0]
    rw [e1, e2, wrap_at (by omega) (by omega)]
    refine Ev.pos (by omega) (Ev.pos (by omega) (Ev.pos (by omega) (Ev.pos (by omega) (Ev.pos k1 (Ev.pos ?_ (Ev.pos k3 (Ev.neg ?_ (ih (j + 1) (by omega) (by omega)))))))))
    · show ByteArray.toList ⟨(ts'[j]).text.toArray⟩ = ByteArray.toList ⟨(ts[j]).text.toArray⟩
      rw [k2]
    · show ¬ (((ts'[j]).pos : Nat) : Int) < 0
      omega
theorem TokJoins_ev (s : ByteArray) (hs : s.size ≤ 140737488351232) : Ev (fun k => whirligiglaw02_TokJoins.f k s) true := by
  unfold whirligiglaw02_TokJoins.f
  refine Ev.bind anchor02_ev (Ev.pos rfl ?_)
  by_cases h : (s.size : Int) > 1000
  · exact Ev.pos h (Ev.some rfl)
  · have hl := len_size s
    refine Ev.neg h (Ev.bind (Lex_ev s (by omega)) ?_)
    dsimp only
    by_cases h0 : (lex s.data.toList).2.1 = 0
    · refine Ev.pos h0 (Ev.bind (rLex_ev s (by omega)) ?_)
      dsimp only
      have hg := lex_good s.data.toList (by omega)
      have hn := lex_len s.data.toList
      generalize (lex s.data.toList).1 = ts at hg hn
      have hol := outB_len ts false hg
      have hjoin : tok_Join.f (ts.map Tk.s32) = some ⟨(outB false ts).toArray⟩ := by
        unfold tok_Join.f
        rw [outs_outB ts 0]
        exact if_pos (show (outB false ts).length ≤ _ by omega)
      obtain ⟨ts', hx, hxl, hxk⟩ := relex ts [] false (outB false ts) 0 ((outB false ts).length + 1) hg rfl (by simpa using hn) (by omega)
      have hlex := Lex_ev ⟨(outB false ts).toArray⟩ (by rw [size_mk]; omega)
      rw [show (⟨(outB false ts).toArray⟩ : ByteArray).data.toList = outB false ts from by simp, show lex (outB false ts) = ([] ++ ts', 0, 0) from hx, List.nil_append] at hlex
      refine Ev.bind_some hjoin (Ev.bind hlex (Ev.bind (rjoin_ev ts (by omega) (by omega)) (Ev.pos rfl (Ev.pos rfl ?_))))
      dsimp only
      have h1 : (ts.map Tk.s32).length = ts.length := List.length_map ..
      have h2 : (ts'.map Tk.s32).length = ts'.length := List.length_map ..
      rw [show ((((ts'.map Tk.s32).length : Nat) : Int) != (((ts.map Tk.s32).length : Nat) : Int)) = false from by rw [h1, h2, hxl, bne_self_eq_false]]
      refine Ev.succ ?_
      simp only [whirligiglaw02_TokJoins.j0]
      exact Ev.neg (by decide) (joins_l ts ts' (by omega) hxl hxk _ 0 (by omega) rfl)
    · exact Ev.neg h0 (Ev.some rfl)
end Go.Proofs.YtbngfhlciebeeaaDoor.Sp
