/- Printed and hand-written steps towards the row (TokJoins), those that it reaches. -/
import Derived.Shelf.Strings.BuilderK
import Derived.Test.YtbngfhlciebeeaaDoorProg
namespace Go.Proofs.YtbngfhlciebeeaaDoor.L
open Go.Shelf
def shLays169_ren : Go.Shelf.Ren := ⟨fun | 169 => 74 | n => n, fun | 70 => 130 | 9 => 9 | 0 => 0 | 72 => 133 | 37 => 131 | 127 => 171 | 3 => 3 | 5 => 5 | n => n, fun | n => n⟩
theorem shLays169 : Go.Proofs.Lays.n169 Tryd.prog shLays169_ren := {
  mixed := by kernel_rfl
  f169 := Tryd.func74.trans (congrArg some (by kernel_rfl))
  t0 := Tryd.underlying0
  a0 := Tryd.isAgg0
  z0 := Tryd.sizeOf0
  v0 := Tryd.zeroValue0
  t3 := Tryd.underlying3
  a3 := Tryd.isAgg3
  z3 := Tryd.sizeOf3
  v3 := Tryd.zeroValue3
  t9 := Tryd.underlying9
  a9 := Tryd.isAgg9
  z9 := Tryd.sizeOf9
  v9 := Tryd.zeroValue9
  t37 := Tryd.underlying131
  a37 := Tryd.isAgg131
  z37 := Tryd.sizeOf131
  v37 := Tryd.zeroValue131
  t70 := Tryd.underlying130
  a70 := Tryd.isAgg130
  z70 := Tryd.sizeOf130
  v70 := Tryd.zeroValue130
  t72 := Tryd.underlying133
  a72 := Tryd.isAgg133
  z72 := Tryd.sizeOf133
  v72 := Tryd.zeroValue133
  t127 := Tryd.underlying171
  a127 := Tryd.isAgg171
  z127 := Tryd.sizeOf171
  v127 := Tryd.zeroValue171 }
theorem shExtra : Builder.Extra Tryd.prog shLays169_ren := {
  sizeBuilder := by kernel_rfl
  liesBuilder := by kernel_rfl
  t5 := Tryd.underlying5
  a5 := Tryd.isAgg5
  z5 := Tryd.sizeOf5
  v5 := Tryd.zeroValue5
  infoByte := by kernel_rfl
  cellsByte := by kernel_rfl
  sizeByte := by kernel_rfl
  neB5 := by decide }
open Go.RowKit in
theorem bd_string (B b : Nat) (l : List UInt8) (w : World) (h : Lib.IsBuilderF 133 5 B b (Lib.byteCells l) w) (hBw : B ≤ w.heap.size) :
    Calls Tryd.prog 74 #[.pointer (some ⟨b, 0, none⟩)] w fun e w' => e = .returned (.string ⟨l.toArray⟩) ∧ (Lib.IsBuilderF 133 5 B b (Lib.byteCells l) w' ∧ Below B w w' ∧ Lib.OthersKept 5 (some b) w w') := Any.Builder_String_any_k shLays169 shExtra B b l w h hBw
end Go.Proofs.YtbngfhlciebeeaaDoor.L
