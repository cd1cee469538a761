/- Printed and hand-written steps towards the row (TokNames), those that it reaches. -/
import Derived.Test.YtbngfhlciebeeaaDoorTokNamesRefC
import Derived.Test.YtbngfhlciebeeaaDoorTokNamesLxf3
import Derived.KernelRfl
namespace Go.Proofs.YtbngfhlciebeeaaDoor.Sp
set_option linter.unusedVariables false
set_option linter.unusedSimpArgs false
open Go.RowKit Go.Proofs.YtbngfhlciebeeaaDoor.L Go.Proofs.YtbngfhlciebeeaaDoorW.PrintWords
theorem lex_anchor : lex [120, 49, 60, 61, 97, 46, 98] = ([⟨1, [120, 49], 0, 0⟩, ⟨5, [60, 61], 0, 2⟩, ⟨2, [97, 46, 98], 0, 4⟩], 0, 0) := by kernel_rfl
theorem anchor02_ev : Ev (fun k => whirligiglaw02_anchor.f k) true := by
  unfold whirligiglaw02_anchor.f
  have h := Lex_ev (⟨#[120, 49, 60, 61, 97, 46, 98]⟩ : ByteArray) (by decide)
  rw [show (⟨#[120, 49, 60, 61, 97, 46, 98]⟩ : ByteArray).data.toList = [120, 49, 60, 61, 97, 46, 98] from rfl, lex_anchor] at h
  refine Ev.bind h ?_
  exact Ev.const (fun _ => by kernel_rfl)
end Go.Proofs.YtbngfhlciebeeaaDoor.Sp
