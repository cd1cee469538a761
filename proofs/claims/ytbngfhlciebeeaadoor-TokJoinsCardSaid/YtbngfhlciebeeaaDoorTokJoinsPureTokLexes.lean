/- Printed and hand-written steps towards the row (TokJoins), those that it reaches. -/
import Derived.Test.YtbngfhlciebeeaaDoorTokJoinsRefC
import Derived.Test.YtbngfhlciebeeaaDoorTokJoinsLxf3
import Derived.KernelRfl
namespace Go.Proofs.YtbngfhlciebeeaaDoor.Sp
set_option linter.unusedVariables false
set_option linter.unusedSimpArgs false
open Go.RowKit Go.Proofs.YtbngfhlciebeeaaDoor.L Go.Proofs.YtbngfhlciebeeaaDoorW.PrintWords
theorem lex_anchor : lex [120, 49, 60, 61, 97, 46, 98] = ([⟨1, [120, 49], 0, 0⟩, ⟨5, [60, 61], 0, 2⟩, ⟨2, [97, 46, 98], 0, 4⟩], 0, 0) := by kernel_rfl
theorem anchor02_ev : Ev (fun k => whirligiglaw02_anchor.f k) true := by
  unfold whirligiglaw02_anchor.f
  have h := Lex_ev (⟨#[120, 49, 60, 61, 97, 46, 98]⟩ : ByteArray) (by decide)
  rw [show (⟨#[120, 49, 60, 61, 97, 46, 98]⟩ : ByteArray).data.toList = [120, 49, 60, 61, 97, 46, 98] from rfl, lex_anchor] at h
  refine Ev.bind h ?_
  exact Ev.const (fun _ => by kernel_rfl)
theorem lexGo_len (L : List UInt8) : ∀ (f i : Nat) (out : List Tk), out.length ≤ 120 → (lexGo L f i out).1.length ≤ 120
  | 0, i, out, h => by simp [lexGo]
  | f + 1, i, out, h => by
    simp only [lexGo]
    split
    · exact h
    · split
      · simp
      · split
        · simp
        · exact lexGo_len L f _ _ (by rw [List.length_append]; simp; omega)
theorem lex_len (L : List UInt8) : (lex L).1.length ≤ 120 := lexGo_len L _ _ _ (by simp)
end Go.Proofs.YtbngfhlciebeeaaDoor.Sp
