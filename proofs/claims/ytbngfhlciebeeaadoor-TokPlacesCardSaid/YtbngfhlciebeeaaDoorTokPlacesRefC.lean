/- Printed and hand-written steps towards the row (TokPlaces), those that it reaches. -/
import Derived.Test.YtbngfhlciebeeaaDoorTokPlacesTokB
import Derived.Test.YtbngfhlciebeeaaDoorTokPlacesLxf112
namespace Go.Proofs.YtbngfhlciebeeaaDoor.Sp
set_option linter.unusedVariables false
set_option linter.unusedSimpArgs false
open Go.RowKit Go.Proofs.YtbngfhlciebeeaaDoor.L Go.Proofs.YtbngfhlciebeeaaDoorW.PrintWords
theorem pend_not {p : UInt8 → Bool} {L : List UInt8} {i : Nat} (h : pend p L i < L.length) : p (L.getD (pend p L i) 0) = false := by
  cases hb : p (L.getD (pend p L i) 0) with
  | false => rfl
  | true =>
    exfalso
    have h1 : cut L i (pend p L i) = (L.drop i).takeWhile p := cut_pend p L i
    have h2 := List.takeWhile_append_dropWhile (p := p) (l := L.drop i)
    have h3 : (L.drop i).dropWhile p = L.drop (pend p L i) := by
      have e : (L.drop i).drop ((L.drop i).takeWhile p).length = (L.drop i).dropWhile p := by
        conv => lhs; arg 2; rw [← h2]
        rw [List.drop_left]
      rw [← e, List.drop_drop]
      unfold pend
      congr 1
    rw [drop_at h] at h3
    have := List.head?_dropWhile_not p (L.drop i)
    rw [h3] at this
    simp only [List.head?_cons] at this
    rw [hb] at this
    cases this
end Go.Proofs.YtbngfhlciebeeaaDoor.Sp
