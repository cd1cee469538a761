/- Printed and hand-written steps towards the row (TreeRight), those that it reaches. -/
import Derived.Test.YtbngfhlciebeeaaDoorTreeRightG39
import Derived.Test.YtbngfhlciebeeaaDoorTreeRightLxf8
namespace Go.Proofs.YtbngfhlciebeeaaDoor.Sp
set_option linter.unusedVariables false
set_option linter.unusedSimpArgs false
open Go.RowKit Go.Proofs.YtbngfhlciebeeaaDoor.L Go.Proofs.YtbngfhlciebeeaaDoorW.PrintWords
def smallBr (b : S43) : Prop := b.f3.length ≤ 600 ∧ ∀ x ∈ b.f3, x.f2.size ≤ 200
theorem treeRight_l1 (l : List S43) (n : Int) (i : Int) (xs : List S45) (hn : xs.length ≤ 600) (d : Nat) : ∀ j, j ≤ xs.length → xs.length - j = d → (∀ x ∈ xs.take j, x.f2.size ≤ 200) →
    ((∀ x ∈ xs, x.f2.size ≤ 200) → Ev (fun k => whirligiglaw22_TreeRight.l0 k l l n (wrap64 (i + 1))) true) →
    Ev (fun k => whirligiglaw22_TreeRight.l1 k l l n i xs (xs.length : Int) (j : Int)) true := by
  induction d with
  | zero =>
    intro j hj hd hb h
    refine Ev.succ ?_
    simp only [whirligiglaw22_TreeRight.l1]
    exact Ev.neg (by omega) (h (by rw [List.take_of_length_le (by omega)] at hb; exact hb))
  | succ d ih =>
    intro j hj hd hb h
    have hjl : j < xs.length := by omega
    refine Ev.succ ?_
    simp only [whirligiglaw22_TreeRight.l1]
    rw [rd45 hjl, wrap_at (x := (j : Int) + 1) (by omega) (by omega)]
    refine Ev.pos (by omega) (Ev.pos (by omega) (Ev.pos (by omega) ?_))
    by_cases h1 : (xs[j].f2.size : Int) > 200
    · refine Ev.pos h1 (Ev.some ?_)
      exact decide_eq_true h1
    · refine Ev.neg h1 (Ev.bind (inputRight_ev xs[j] (by omega)) (Ev.bind (refRightInput_ev xs[j] (by omega)) (Ev.neg (by simp) ?_)))
      refine ih (j + 1) (by omega) (by omega) (fun x hx => ?_) h
      rw [List.take_succ_eq_append_getElem hjl] at hx
      rcases List.mem_append.1 hx with hx | hx
      · exact hb x hx
      · rw [List.mem_singleton.1 hx]; omega
theorem treeRight_l0 (l : List S43) (hn : l.length ≤ 20) (d : Nat) : ∀ j, j ≤ l.length → l.length - j = d → (∀ b ∈ l.take j, smallBr b) →
    Ev (fun k => whirligiglaw22_TreeRight.l0 k l l (l.length : Int) (j : Int)) true := by
  induction d with
  | zero =>
    intro j hj hd hb
    rw [List.take_of_length_le (by omega)] at hb
    have hs : smallT l := ⟨by omega, fun b hbl => ⟨by have := (hb b hbl).1; omega, fun x hx => by have := (hb b hbl).2 x hx; omega⟩⟩
    refine Ev.succ ?_
    simp only [whirligiglaw22_TreeRight.l0]
    exact Ev.neg (by omega) (Ev.bind (right_ev l hs) (Ev.bind (refs_ev l hs) (Ev.bind (refRight_ev l hs) (Ev.some (by simp)))))
  | succ d ih =>
    intro j hj hd hb
    have hjl : j < l.length := by omega
    refine Ev.succ ?_
    simp only [whirligiglaw22_TreeRight.l0]
    rw [rd43 hjl]
    refine Ev.pos (by omega) (Ev.pos (by omega) (Ev.pos (by omega) ?_))
    by_cases h1 : (l[j].f3.length : Int) > 600
    · exact Ev.pos h1 (Ev.some rfl)
    · refine Ev.neg h1 (treeRight_l1 l _ (j : Int) l[j].f3 (by omega) _ 0 (by omega) rfl (by simp) (fun hx => ?_))
      rw [wrap_at (x := (j : Int) + 1) (by omega) (by omega)]
      refine ih (j + 1) (by omega) (by omega) (fun b hbl => ?_)
      rw [List.take_succ_eq_append_getElem hjl] at hbl
      rcases List.mem_append.1 hbl with h | h
      · exact hb b h
      · rw [List.mem_singleton.1 h]; exact ⟨by omega, hx⟩
theorem TreeRight_ev (l : List S43) (o : l.length ≤ maxLen ∧ ∀ b ∈ l, Opn.I64 b.f0 ∧ Opn.I64 b.f1 ∧ Opn.I64 b.f2 ∧ (b.f3.length ≤ maxLen ∧ ∀ x ∈ b.f3, Opn.I64 x.f0 ∧ Opn.I64 x.f1 ∧ x.f2.size ≤ maxLen ∧ Opn.I64 x.f3)) :
    Ev (fun k => whirligiglaw22_TreeRight.f k l) true := by
  unfold whirligiglaw22_TreeRight.f
  refine Ev.bind anchor22_ev (Ev.pos rfl ?_)
  by_cases h : (l.length : Int) > 20
  · exact Ev.pos h (Ev.some rfl)
  · exact Ev.neg h (treeRight_l0 l (by omega) _ 0 (by omega) rfl (by simp))
end Go.Proofs.YtbngfhlciebeeaaDoor.Sp
