/- Printed and hand-written steps towards the row (KindOf), those that it reaches. -/
import Derived.Test.YtbngfhlciebeeaaDoorKindOfKindE
import Derived.Test.YtbngfhlciebeeaaDoorKindOfG38
import Derived.Test.YtbngfhlciebeeaaDoorKindOfLxf13
namespace Go.Proofs.YtbngfhlciebeeaaDoor.Sp
set_option linter.unusedVariables false
set_option linter.unusedSimpArgs false
open Go.RowKit Go.Proofs.YtbngfhlciebeeaaDoorW.PrintWords Go.Proofs.YtbngfhlciebeeaaDoorW.PrintMore Go.Proofs.YtbngfhlciebeeaaDoor.L
theorem vars04_is_l0 (l : List S118) (hl : l.length ≤ 5864062014634) : ∀ (d j : Nat), j ≤ l.length → l.length - j = d → (∀ x ∈ l.take j, 1 ≤ x.f1 ∧ x.f1 ≤ 3) →
    ∃ r, Ev (fun k => whirligiglaw04_vars.l0 k l ((l.take j).map v151) l (l.length : Int) (j : Int)) r ∧ (r.2 = true → r.1 = l.map v151 ∧ l.length ≤ 100 ∧ ∀ x ∈ l, 1 ≤ x.f1 ∧ x.f1 ≤ 3) := by
  intro d
  induction d with
  | zero =>
    intro j hj hd hx
    rw [List.take_of_length_le (by omega)] at hx ⊢
    refine ⟨(l.map v151, decide ((l.length : Int) ≤ 100)), Ev.succ ?_, ?_⟩
    · simp only [whirligiglaw04_vars.l0]
      exact Ev.neg (by omega) (Ev.some rfl)
    · intro h
      have := of_decide_eq_true h
      exact ⟨rfl, by omega, hx⟩
  | succ d ih =>
    intro j hj hd hx
    have hjl : j < l.length := by omega
    by_cases g1 : l[j].f1 < 1
    · refine ⟨([], false), Ev.succ ?_, fun h => by cases h⟩
      simp only [whirligiglaw04_vars.l0]
      rw [rd118 hjl]
      exact Ev.pos (by omega) (Ev.pos (by omega) (Ev.pos (by omega) (Ev.pos g1 (Ev.some rfl))))
    by_cases g2 : l[j].f1 > 3
    · refine ⟨([], false), Ev.succ ?_, fun h => by cases h⟩
      simp only [whirligiglaw04_vars.l0]
      rw [rd118 hjl]
      exact Ev.pos (by omega) (Ev.pos (by omega) (Ev.pos (by omega) (Ev.neg g1 (Ev.pos g2 (Ev.some rfl)))))
    obtain ⟨r, hr, hi⟩ := ih (j + 1) (by omega) (by omega) (fun x hm => by
      rw [List.take_add_one, List.getElem?_eq_getElem hjl] at hm
      rcases List.mem_append.1 hm with hm | hm
      · exact hx x hm
      · obtain rfl : x = l[j] := by simpa using hm
        omega)
    rw [List.take_add_one, List.getElem?_eq_getElem hjl, List.map_append] at hr
    refine ⟨r, Ev.succ ?_, hi⟩
    simp only [whirligiglaw04_vars.l0]
    rw [rd118 hjl, up1 (by omega)]
    exact Ev.pos (by omega) (Ev.pos (by omega) (Ev.pos (by omega) (Ev.neg g1 (Ev.neg g2 (Ev.pos (by rw [List.length_map, List.length_take]; omega) hr)))))
theorem vars04_is (l : List S118) (hl : l.length * 24 ≤ 140737488351232) : ∃ r, Ev (fun k => whirligiglaw04_vars.f k l) r ∧ (r.2 = true → r.1 = l.map v151 ∧ l.length ≤ 100 ∧ ∀ x ∈ l, 1 ≤ x.f1 ∧ x.f1 ≤ 3) := by
  obtain ⟨r, h, h'⟩ := vars04_is_l0 l (by omega) l.length 0 (by omega) (by omega) (by simp)
  refine ⟨r, ?_, h'⟩
  unfold whirligiglaw04_vars.f
  exact h
theorem KindOf_ev (s : ByteArray) (hs : s.size ≤ 140737488351232) (vs : List S118) (ss : List ByteArray) (hv : Opn.okVs vs ∧ Opn.okSs ss) (n : Int) (hn : Opn.I64 n) : Ev (fun k => whirligiglaw04_KindOf.f k s vs ss n) true := by
  unfold whirligiglaw04_KindOf.f
  refine Ev.bind anchor04_ev (Ev.pos rfl ?_)
  obtain ⟨⟨out, b⟩, hr, hb⟩ := vars04_is vs hv.1.1
  refine Ev.bind hr ?_
  have ht : ∀ o, Ev (fun k => whirligiglaw04_KindOf.j0 k s n o true vs ss) true := fun o => Ev.succ (by simp only [whirligiglaw04_KindOf.j0]; exact Ev.pos trivial (Ev.some rfl))
  cases b with
  | false => exact Ev.neg (by simp) (ht _)
  | true =>
    obtain ⟨h1, h2, h3⟩ := hb rfl
    replace h1 : out = vs.map v151 := h1
    subst h1
    refine Ev.pos rfl ?_
    by_cases g : (s.size : Int) > 600
    · exact Ev.pos g (ht _)
    refine Ev.neg g ?_
    by_cases g2 : (ss.length : Int) > 100
    · rw [decide_eq_true g2]; exact ht _
    rw [decide_eq_false g2]
    refine Ev.succ ?_
    simp only [whirligiglaw04_KindOf.j0]
    refine Ev.neg (by decide) ?_
    obtain ⟨⟨x, e⟩, hR, hG⟩ := Read_ev s hs
    refine Ev.bind hR ?_
    by_cases he : e = 0
    · have G : GoodE x := hG he
      have h0 := G.ne
      have h1 := G.le
      obtain ⟨kd, err, at_, r1, r2, r3⟩ := Of_ev (vs := vs) (ss := ss) G (by omega) (by omega)
      refine Ev.pos he (Ev.bind r3 (Ev.bind (refs04_ev x (by omega)) (Ev.bind (a := (kd, err, at_)) ?_ (Ev.pos rfl ?_))))
      · dsimp only
        rw [wrap_at (x := (x.length : Int) - 1) (by omega) (by omega)]
        exact r1
      · refine Ev.succ ?_
        simp only [whirligiglaw04_KindOf.j1]
        refine Ev.neg (by simp) ?_
        have hI : Ev (fun k => kind_Is.f k x vs ss n) (if err = 0 then (if kd = n then 0 else 20) else err) := by
          unfold kind_Is.f
          refine Ev.bind r3 ?_
          by_cases g : err = 0
          · by_cases g3 : kd = n
            · exact Ev.pos g (Ev.pos g3 (Ev.some (by rw [if_pos g, if_pos g3])))
            · exact Ev.pos g (Ev.neg g3 (Ev.some (by rw [if_pos g, if_neg g3])))
          · exact Ev.neg g (Ev.some (by rw [if_neg g]))
        refine Ev.bind hI ?_
        by_cases g : err = 0
        · refine Ev.pos g ?_
          rw [if_pos g]
          by_cases g3 : kd = n
          · rw [if_pos g3]
            exact Ev.pos (by rw [g3]; simp) (Ev.pos rfl (Ev.some rfl))
          · rw [if_neg g3]
            exact Ev.pos (by simp; omega) (Ev.neg (by decide) (Ev.some rfl))
        · refine Ev.neg g ?_
          rw [if_neg g]
          exact Ev.some (by simp)
    · exact Ev.neg he (Ev.some rfl)
end Go.Proofs.YtbngfhlciebeeaaDoor.Sp
