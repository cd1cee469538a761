/- Printed and hand-written steps towards the row (TokIs), those that it reaches. -/
import Derived.Test.YtbngfhlciebeeaaDoorTokIsOpens
import Derived.KernelRfl
import Derived.OpenShut
namespace Go.Proofs.YtbngfhlciebeeaaDoor.Opn
set_option linter.unusedVariables false
set_option linter.unusedSimpArgs false
open Go.RowKit Go.ChangeShapes Go.WideShapes Go.Proofs.YtbngfhlciebeeaaDoorW.PrintWords
def I64 (n : Int) : Prop := -9223372036854775808 ≤ n ∧ n ≤ 9223372036854775807
theorem i64_of {n : Int} (h : (Lit.int .i64 n).wf = true) : I64 n := bounds_i64 h
section
variable {H : Type} {enc : TypeId × Value → H} {w : World} {base : Nat} {sp : Nat → Bool} {held : Bool}
theorem opens3 : Opens enc Tryd.prog w base sp held 3 (Kd.int .i64) I64 := opens_imp (fun _ h => i64_of h) (opens_int Tryd.underlying3)
theorem opens2 : Opens enc Tryd.prog w base sp held 2 (Kd.int .i64) I64 := opens_imp (fun _ h => i64_of h) (opens_int Tryd.underlying2)
theorem opens9 : Opens enc Tryd.prog w base sp held 9 Kd.string (fun s => s.size ≤ maxLen) := opens_string Tryd.underlying9
theorem opens34 : Opens enc Tryd.prog w base sp held 34 (Kd.slice 9 Kd.string) (fun l => l.length ≤ maxLen ∧ ∀ x ∈ l, x.size ≤ maxLen) := opens_slice Tryd.underlying34 (by kernel_rfl) opens9
theorem opens32 : Opens enc Tryd.prog w base sp held 32 L.k32 (fun x => I64 x.f0 ∧ x.f1.size ≤ maxLen ∧ I64 x.f2 ∧ I64 x.f3) :=
  opens_iso (fun x => ⟨x.1, x.2.1, x.2.2.1, x.2.2.2⟩) (fun _ => rfl)
    (opens_struct Tryd.underlying32 (tot := 4) (by kernel_rfl) (opensF_cons opens3 rfl (opensF_cons opens9 (by kernel_rfl) (opensF_cons opens2 (by kernel_rfl) (opensF_one opens3 (by kernel_rfl) (by kernel_rfl))))))
end
end Go.Proofs.YtbngfhlciebeeaaDoor.Opn
