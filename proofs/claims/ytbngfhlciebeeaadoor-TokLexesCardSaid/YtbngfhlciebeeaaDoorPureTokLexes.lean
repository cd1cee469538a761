/- TokLexes in plain Lean: as printed, the law answers true for every line, with enough rounds. -/
import Derived.Test.YtbngfhlciebeeaaDoorRefC
import Derived.Test.YtbngfhlciebeeaaDoorLxf3 -- F:whirligiglaw02_TokLexes.f
import Derived.KernelRfl
namespace Go.Proofs.YtbngfhlciebeeaaDoor.Sp
set_option linter.unusedVariables false
set_option linter.unusedSimpArgs false
open Go.RowKit Go.Proofs.YtbngfhlciebeeaaDoor.L Go.Proofs.YtbngfhlciebeeaaDoorW.PrintWords

theorem lex_anchor : lex [120, 49, 60, 61, 97, 46, 98] = ([⟨1, [120, 49], 0, 0⟩, ⟨5, [60, 61], 0, 2⟩, ⟨2, [97, 46, 98], 0, 4⟩], 0, 0) := by kernel_rfl
theorem anchor02_ev : Ev (fun k => whirligiglaw02_anchor.f k) true := by
  unfold whirligiglaw02_anchor.f
  have h := Lex_ev (⟨#[120, 49, 60, 61, 97, 46, 98]⟩ : ByteArray) (by decide)
  rw [show (⟨#[120, 49, 60, 61, 97, 46, 98]⟩ : ByteArray).data.toList = [120, 49, 60, 61, 97, 46, 98] from rfl, lex_anchor] at h
  refine Ev.bind h ?_
  exact Ev.const (fun _ => by kernel_rfl)

theorem lexes_l (ts : List Tk) (hn : ts.length ≤ 1000000) (d : Nat) : ∀ j, j ≤ ts.length → ts.length - j = d →
    Ev (fun k => whirligiglaw02_TokLexes.l0 k (ts.map Tk.s32) (ts.map Tk.s31) (((ts.map Tk.s32).length : Nat) : Int) (j : Int)) true := by
  have h1 : (ts.map Tk.s32).length = ts.length := List.length_map ..
  have h2 : (ts.map Tk.s31).length = ts.length := List.length_map ..
  induction d with
  | zero =>
    intro j hj hd
    refine Ev.succ ?_
    simp only [whirligiglaw02_TokLexes.l0]
    exact Ev.neg (by omega) (Ev.some rfl)
  | succ d ih =>
    intro j hj hd
    refine Ev.succ ?_
    simp only [whirligiglaw02_TokLexes.l0]
    refine Ev.pos (by omega) (Ev.pos (by omega) (Ev.pos (by omega) (Ev.pos (by omega) (Ev.neg ?_ ?_))))
    · have e1 : rd_T32 (ts.map Tk.s32) (j : Int) = Tk.s32 ts[j] := by
        unfold rd_T32
        simp [List.getD_eq_getElem?_getD, show j < ts.length by omega]
      have e2 : rd_T31 (ts.map Tk.s31) (j : Int) = Tk.s31 ts[j] := by
        unfold rd_T31
        simp [List.getD_eq_getElem?_getD, show j < ts.length by omega]
      rw [e1, e2]
      simp [Tk.s32, Tk.s31]
    · rw [wrap_at (by omega) (by omega)]
      exact ih (j + 1) (by omega) (by omega)

theorem lexGo_len (L : List UInt8) : ∀ (f i : Nat) (out : List Tk), out.length ≤ 120 → (lexGo L f i out).1.length ≤ 120
  | 0, i, out, h => by simp [lexGo]
  | f + 1, i, out, h => by
    simp only [lexGo]
    split
    · exact h
    · split
      · simp
      · split
        · simp
        · exact lexGo_len L f _ _ (by rw [List.length_append]; simp; omega)
theorem lex_len (L : List UInt8) : (lex L).1.length ≤ 120 := lexGo_len L _ _ _ (by simp)

theorem TokLexes_ev (s : ByteArray) (hs : s.size ≤ 140737488351232) : Ev (fun k => whirligiglaw02_TokLexes.f k s) true := by
  unfold whirligiglaw02_TokLexes.f
  refine Ev.bind anchor02_ev (Ev.pos rfl ?_)
  by_cases h : (s.size : Int) > 1000
  · exact Ev.pos h (Ev.some rfl)
  · refine Ev.neg h (Ev.bind (Lex_ev s (by omega)) (Ev.bind (rLex_ev s (by omega)) (Ev.pos rfl (Ev.pos rfl ?_))))
    have h1 : ((lex s.data.toList).1.map Tk.s32).length = (lex s.data.toList).1.length := List.length_map ..
    have h2 : ((lex s.data.toList).1.map Tk.s31).length = (lex s.data.toList).1.length := List.length_map ..
    dsimp only
    rw [show (((((lex s.data.toList).1.map Tk.s32).length : Nat) : Int) != ((((lex s.data.toList).1.map Tk.s31).length : Nat) : Int)) = false from by rw [h1, h2, bne_self_eq_false]]
    refine Ev.succ ?_
    simp only [whirligiglaw02_TokLexes.j0]
    exact Ev.neg (by decide) (lexes_l _ (by have := lex_len s.data.toList; omega) _ 0 (by omega) rfl)
end Go.Proofs.YtbngfhlciebeeaaDoor.Sp
