/- Printed and hand-written steps towards the row (TokJoins), those that it reaches. -/
import Derived.Test.YtbngfhlciebeeaaDoorProg
import Derived.Below
namespace Go.Proofs.YtbngfhlciebeeaaDoor.L
open Go.RowKit
def signList : List (List UInt8) := [[60, 61], [62, 61], [33, 61], [40], [41], [59], [58], [43], [45], [42], [47], [37], [60], [62], [61]]
structure Laid (w : World) : Prop where
  mk :: (out : ∃ t fr, w.heap[0]? = some (.cells #[.string ⟨#[60, 61]⟩, .string ⟨#[62, 61]⟩, .string ⟨#[33, 61]⟩, .string ⟨#[40]⟩, .string ⟨#[41]⟩, .string ⟨#[59]⟩, .string ⟨#[58]⟩, .string ⟨#[43]⟩, .string ⟨#[45]⟩, .string ⟨#[42]⟩, .string ⟨#[47]⟩, .string ⟨#[37]⟩, .string ⟨#[60]⟩, .string ⟨#[62]⟩, .string ⟨#[61]⟩] t fr))
theorem Laid.below {w w' : World} (h : Laid w) (hb : Below w.heap.size w w') : Laid w' := by
  obtain ⟨t, fr, h⟩ := h
  exact ⟨t, fr, (hb.block 0 (Array.getElem?_eq_some_iff.1 h).1).trans h⟩
end Go.Proofs.YtbngfhlciebeeaaDoor.L
