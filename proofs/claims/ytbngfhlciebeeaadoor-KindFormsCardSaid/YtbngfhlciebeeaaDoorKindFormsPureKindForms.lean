/- Printed and hand-written steps towards the row (KindForms), those that it reaches. -/
import Derived.Test.YtbngfhlciebeeaaDoorKindFormsG22
import Derived.Test.YtbngfhlciebeeaaDoorKindFormsG34
import Derived.KernelRfl
namespace Go.Proofs.YtbngfhlciebeeaaDoor.Sp
set_option linter.unusedVariables false
set_option linter.unusedSimpArgs false
open Go.RowKit Go.Proofs.YtbngfhlciebeeaaDoorW.PrintWords Go.Proofs.YtbngfhlciebeeaaDoorW.PrintMore Go.Proofs.YtbngfhlciebeeaaDoor.L
theorem rd118 {l : List S118} {j : Nat} (h : j < l.length) : rd_T118 l (j : Int) = l[j] := by
  unfold rd_T118
  rw [Int.toNat_natCast, List.getD_eq_getElem?_getD, List.getElem?_eq_getElem h]
  rfl
theorem vars04_l0 (l : List S118) (hl : l.length ≤ 5864062014634) : ∀ (d j : Nat) (out : List S151), j ≤ l.length → l.length - j = d → out.length = j →
    ∃ r, Ev (fun k => whirligiglaw04_vars.l0 k l out l (l.length : Int) (j : Int)) r := by
  intro d
  induction d with
  | zero =>
    intro j out hj hd ho
    suffices hx : ∃ r, Ev (fun k => whirligiglaw04_vars.l0 (k + 1) l out l (l.length : Int) (j : Int)) r by
      obtain ⟨r, h⟩ := hx
      exact ⟨r, Ev.succ h⟩
    simp only [whirligiglaw04_vars.l0]
    exact ⟨_, Ev.neg (by omega) (Ev.some rfl)⟩
  | succ d ih =>
    intro j out hj hd ho
    suffices hx : ∃ r, Ev (fun k => whirligiglaw04_vars.l0 (k + 1) l out l (l.length : Int) (j : Int)) r by
      obtain ⟨r, h⟩ := hx
      exact ⟨r, Ev.succ h⟩
    simp only [whirligiglaw04_vars.l0]
    rw [rd118 (show j < l.length by omega), up1 (by omega)]
    by_cases g1 : l[j].f1 < 1
    · exact ⟨_, Ev.pos (by omega) (Ev.pos (by omega) (Ev.pos (by omega) (Ev.pos g1 (Ev.some rfl))))⟩
    by_cases g2 : l[j].f1 > 3
    · exact ⟨_, Ev.pos (by omega) (Ev.pos (by omega) (Ev.pos (by omega) (Ev.neg g1 (Ev.pos g2 (Ev.some rfl)))))⟩
    obtain ⟨r, hr⟩ := ih (j + 1) (out ++ [(⟨l[j].f0, l[j].f1⟩ : S151)]) (by omega) (by omega) (by simp [ho])
    exact ⟨r, Ev.pos (by omega) (Ev.pos (by omega) (Ev.pos (by omega) (Ev.neg g1 (Ev.neg g2 (Ev.pos (by omega) hr)))))⟩
theorem vars04_total (l : List S118) (hl : l.length * 24 ≤ 140737488351232) : ∃ r, Ev (fun k => whirligiglaw04_vars.f k l) r := by
  unfold whirligiglaw04_vars.f
  exact vars04_l0 l (by omega) l.length 0 [] (by omega) (by omega) rfl
theorem anchor04_ev : Ev (fun k => whirligiglaw04_anchor.f k) true := ⟨100, fun k hk => by
  obtain ⟨j, rfl⟩ : ∃ j, k = j + 100 := ⟨k - 100, by omega⟩
  kernel_rfl⟩
theorem KindForms_ev (l : List S156) (hl : Opn.okE l) (vs : List S118) (ss : List ByteArray) (hv : Opn.okVs vs ∧ Opn.okSs ss) : Ev (fun k => whirligiglaw04_KindForms.f k l vs ss) true := by
  unfold whirligiglaw04_KindForms.f
  refine Ev.bind anchor04_ev (Ev.pos rfl ?_)
  obtain ⟨⟨out, b⟩, hr⟩ := vars04_total vs hv.1.1
  refine Ev.bind hr ?_
  have ht : Ev (fun k => whirligiglaw04_KindForms.j0 k l true vs ss) true := Ev.succ (by simp only [whirligiglaw04_KindForms.j0]; exact Ev.pos trivial (Ev.some rfl))
  cases b with
  | false => exact Ev.neg (by simp) ht
  | true =>
    refine Ev.pos rfl ?_
    by_cases g : (l.length : Int) > 100
    · exact Ev.pos g ht
    · obtain ⟨t, hR⟩ := right_total l (by omega) hl.2
      refine Ev.neg g (Ev.bind hR ?_)
      cases t with
      | true => exact ht
      | false =>
        have hO : Ev (fun k => kind_Of.f k l vs ss) (0, 11) := by
          unfold kind_Of.f
          exact Ev.bind hR (Ev.neg (by decide) (Ev.some rfl))
        have hI : Ev (fun k => kind_Is.f k l vs ss 1) 11 := by
          unfold kind_Is.f
          exact Ev.bind hO (Ev.neg (by decide) (Ev.some rfl))
        refine Ev.succ ?_
        simp only [whirligiglaw04_KindForms.j0]
        exact Ev.neg (by decide) (Ev.bind hO (Ev.pos rfl (Ev.pos rfl (Ev.bind hI (Ev.some rfl)))))
end Go.Proofs.YtbngfhlciebeeaaDoor.Sp
