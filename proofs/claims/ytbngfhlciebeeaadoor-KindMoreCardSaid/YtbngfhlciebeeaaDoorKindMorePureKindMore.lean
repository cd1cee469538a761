/- Printed and hand-written steps towards the row (KindMore), those that it reaches. -/
import Derived.Test.YtbngfhlciebeeaaDoorKindMoreKindF
import Derived.Test.YtbngfhlciebeeaaDoorKindMoreG36
import Derived.Test.YtbngfhlciebeeaaDoorKindMoreLxf12
namespace Go.Proofs.YtbngfhlciebeeaaDoor.Sp
set_option linter.unusedVariables false
set_option linter.unusedSimpArgs false
open Go.RowKit Go.Proofs.YtbngfhlciebeeaaDoorW.PrintWords Go.Proofs.YtbngfhlciebeeaaDoorW.PrintMore Go.Proofs.YtbngfhlciebeeaaDoor.L
theorem KindMore_ev (s : ByteArray) (hs : s.size ≤ 140737488351232) (vs : List S118) (ss : List ByteArray) (hv : Opn.okVs vs ∧ Opn.okSs ss) (vs' : List S118) (ss' : List ByteArray) (hv' : Opn.okVs vs' ∧ Opn.okSs ss') : Ev (fun k => whirligiglaw04_KindMore.f k s vs ss vs' ss') true := by
  unfold whirligiglaw04_KindMore.f
  refine Ev.bind anchor04_ev (Ev.pos rfl ?_)
  obtain ⟨⟨out, b⟩, hr, hb⟩ := vars04_is vs hv.1.1
  obtain ⟨⟨out', b'⟩, hr', hb'⟩ := vars04_is vs' hv'.1.1
  refine Ev.bind hr (Ev.bind hr' ?_)
  have ht : Ev (fun k => whirligiglaw04_KindMore.j0 k s true vs ss vs' ss') true := Ev.succ (by simp only [whirligiglaw04_KindMore.j0]; exact Ev.pos trivial (Ev.some rfl))
  cases b with
  | false => exact Ev.neg (by simp) ht
  | true =>
    cases b' with
    | false => exact Ev.pos rfl (Ev.neg (by simp) ht)
    | true =>
      obtain ⟨_, h2, _⟩ := hb rfl
      obtain ⟨_, h2', _⟩ := hb' rfl
      refine Ev.pos rfl (Ev.pos rfl ?_)
      by_cases g : (s.size : Int) > 600
      · exact Ev.pos g ht
      refine Ev.neg g ?_
      have l1 : ss.length * 16 ≤ 140737488351232 := hv.2.1
      have l2 : ss'.length * 16 ≤ 140737488351232 := hv'.2.1
      rw [wrap_at (x := (ss.length : Int) + (ss'.length : Int)) (by omega) (by omega)]
      by_cases g2 : (ss.length : Int) + (ss'.length : Int) > 100
      · rw [decide_eq_true g2]; exact ht
      rw [decide_eq_false g2]
      refine Ev.succ ?_
      simp only [whirligiglaw04_KindMore.j0]
      refine Ev.neg (by decide) ?_
      obtain ⟨⟨x, e⟩, hR, hG⟩ := Read_ev s hs
      refine Ev.bind hR ?_
      by_cases he : e = 0
      · have G : GoodE x := hG he
        obtain ⟨kd, err, at_, r1, r2, r3⟩ := Of_ev (vs := vs) (ss := ss) G (by omega) (by omega)
        refine Ev.pos he (Ev.bind r3 ?_)
        by_cases ge : err = 0
        · subst ge
          have hM := Of_more (vs' := vs') (ss' := ss') G (by omega) (by omega) (by omega) (by omega) r3
          refine Ev.pos rfl (Ev.bind_some rfl (Ev.pos (by simp; omega) (Ev.bind_some rfl (Ev.pos (by simp; omega) (Ev.bind_some rfl (Ev.pos (by simp; omega) (Ev.bind_some rfl (Ev.pos (by simp; omega) ?_))))))))
          rw [List.nil_append, List.nil_append]
          refine Ev.bind hM ?_
          exact Ev.pos rfl (Ev.some (by simp))
        · exact Ev.neg ge (Ev.some rfl)
      · exact Ev.neg he (Ev.some rfl)
end Go.Proofs.YtbngfhlciebeeaaDoor.Sp
