/- Printed and hand-written steps towards the row (TreeRight), those that it reaches. -/
import Derived.Test.YtbngfhlciebeeaaDoorTreeRightG35
import Derived.Test.YtbngfhlciebeeaaDoorTreeRightLxf35
import Derived.Test.YtbngfhlciebeeaaDoorTreeRightLxf36
section
namespace Go.Proofs.YtbngfhlciebeeaaDoor.Sp
set_option linter.unusedVariables false
set_option linter.unusedSimpArgs false
open Go.RowKit Go.Proofs.YtbngfhlciebeeaaDoor.L Go.Proofs.YtbngfhlciebeeaaDoorW.PrintWords
def hasAt (a : Int) (xs : List S45) : Bool := decide (0 ≤ idxAt a xs)
theorem hasAt_iff {a : Int} {xs : List S45} : hasAt a xs = true ↔ ∃ x ∈ xs, x.f0 = a := by
  unfold hasAt
  rw [decide_eq_true_iff]
  unfold idxAt
  cases h : xs.findIdx? (fun x => x.f0 == a) with
  | none =>
    rw [List.findIdx?_eq_none_iff] at h
    simp only
    constructor
    · intro h2; omega
    · rintro ⟨x, hx, he⟩
      have := h x hx
      simp [he] at this
  | some j =>
    rw [List.findIdx?_eq_some_iff_getElem] at h
    obtain ⟨hl, he, _⟩ := h
    constructor
    · intro _; exact ⟨xs[j], List.getElem_mem hl, by simpa using he⟩
    · intro _; simp only; omega
def forkedB (l : List S43) (i : Nat) (b : S43) : Bool :=
  decide (0 ≤ b.f0) && (decide (b.f0 < (i : Int)) && (decide (0 ≤ b.f1) && (decide (b.f1 < (rd_T43 l b.f0).f2) && (decide (b.f1 < b.f2) && (hasAt b.f1 b.f3 && eqL (ahead b.f1 b.f3) (ahead b.f1 (rd_T43 l b.f0).f3))))))
theorem moves_fork {b p : S43} (hb : goodB b.f2 b.f3 = true) (hp : goodB p.f2 p.f3 = true) (h0 : 0 ≤ b.f1) (h1 : b.f1 < p.f2) (h2 : b.f1 < b.f2) :
    (¬ (rd_T47 (gen 0 b.f2.toNat b.f3) b.f1).f1 = 0 ↔ hasAt b.f1 b.f3 = true) ∧
    (¬ ((cp (gen 0 p.f2.toNat p.f3) (gen 0 b.f2.toNat b.f3) : Nat) : Int) < b.f1 ↔ ahead b.f1 b.f3 = ahead b.f1 p.f3) := by
  unfold goodB at hb hp
  simp only [Bool.and_eq_true, decide_eq_true_eq] at hb hp
  obtain ⟨hb0, hb1, hb2⟩ := hb
  obtain ⟨hp0, hp1, hp2⟩ := hp
  obtain ⟨a, ha⟩ := Int.eq_ofNat_of_zero_le h0
  rw [ha] at h1 h2 ⊢
  constructor
  · have hg := gen_at b.f2.toNat 0 b.f3 (-1) hb2 (by omega) a (by omega)
    rw [Nat.zero_add] at hg
    have hlt : a < (gen 0 b.f2.toNat b.f3).length := by rw [gen_length]; omega
    rw [rd47 hlt]
    rw [List.getElem?_eq_getElem hlt] at hg
    rw [Option.some.inj hg, hasAt_iff]
    cases hf : b.f3.find? (fun x => x.f0 == (a : Int)) with
    | none =>
      rw [List.find?_eq_none] at hf
      constructor
      · intro h; exact absurd rfl h
      · rintro ⟨x, hx, he⟩; exact absurd (by simpa using he) (hf x hx)
    | some x =>
      have hm := List.mem_of_find?_eq_some hf
      have he := List.find?_some hf
      constructor
      · intro _; exact ⟨x, hm, by simpa using he⟩
      · intro _; exact rightI_kind (rising_mem hb2 x hm).1
  · have hc := cp_ge (gen 0 p.f2.toNat p.f3) (gen 0 b.f2.toNat b.f3) a (by rw [gen_length]; omega) (by rw [gen_length]; omega)
    rw [gen_take a _ _ _ (by omega), gen_take a _ _ _ (by omega), gen_ahead a 0 p.f3 b.f3 (-1) (-1) (by
      exact hp2) (by exact hb2) (by omega) (by omega), Nat.zero_add] at hc
    constructor
    · intro h; exact (hc.1 (by omega)).symm
    · intro h; have := hc.2 h.symm; omega
def smallT (l : List S43) : Prop := l.length ≤ 1000000 ∧ ∀ b ∈ l, b.f3.length ≤ 1000000 ∧ ∀ x ∈ b.f3, x.f2.size ≤ 1000000
def branchOk (l : List S43) (i : Nat) (b : S43) : Bool := goodB b.f2 b.f3 && (if i = 0 then decide (b.f0 = -1) && decide (b.f1 = 0) else forkedB l i b)
def rightFrom (l : List S43) : Nat → List S43 → Bool
  | _, [] => true
  | i, b :: bs => branchOk l i b && rightFrom l (i + 1) bs
def rightTree (l : List S43) : Bool := decide (1 ≤ l.length) && (decide (l.length ≤ 8) && rightFrom l 0 l)
theorem input_eq (l : List S43) (i : Nat) (hi : i < l.length) (a : Int) : ∃ x0 x1 x2 x3, tree_Tree_Input.f l (i : Int) a = some (x0, x1, x2, x3, hasAt a l[i].f3) := by
  unfold tree_Tree_Input.f hasAt
  rw [if_pos ⟨by omega, by omega⟩, rd43 hi]
  by_cases h : 0 ≤ idxAt a l[i].f3
  · rw [if_pos h, decide_eq_true h]; exact ⟨_, _, _, _, rfl⟩
  · rw [if_neg h, decide_eq_false h]; exact ⟨_, _, _, _, rfl⟩
theorem forked_ev (l : List S43) (hs : smallT l) (i : Nat) (hi : i < l.length) : Ev (fun k => tree_Tree_forked.f k l (i : Int)) (forkedB l i l[i]) := by
  have hjt : ∀ a b c (d : List S45), Ev (fun k => tree_Tree_forked.j0 k l (i : Int) true a b c d) false := fun a b c d => by
    refine Ev.succ ?_
    simp only [tree_Tree_forked.j0]
    exact Ev.pos trivial (Ev.some rfl)
  have hsm := (hs.2 l[i] (List.getElem_mem hi)).1
  obtain ⟨x0, x1, x2, x3, hin⟩ := input_eq l i hi l[i].f1
  unfold tree_Tree_forked.f forkedB
  rw [rd43 hi]
  generalize l[i] = b at *
  refine Ev.pos (by omega) (Ev.pos (by omega) ?_)
  by_cases h1 : b.f0 < 0
  · rw [decide_eq_false (show ¬ 0 ≤ b.f0 by omega), Bool.false_and]
    exact Ev.pos h1 (hjt _ _ _ _)
  rw [decide_eq_true (show 0 ≤ b.f0 by omega), Bool.true_and]
  refine Ev.neg h1 ?_
  by_cases h2 : b.f0 ≥ (i : Int)
  · rw [decide_eq_false (show ¬ b.f0 < (i : Int) by omega), Bool.false_and]
    exact Ev.pos h2 (hjt _ _ _ _)
  rw [decide_eq_true (show b.f0 < (i : Int) by omega), Bool.true_and]
  refine Ev.neg h2 ?_
  by_cases h3 : b.f1 < 0
  · rw [decide_eq_false (show ¬ 0 ≤ b.f1 by omega), Bool.false_and]
    exact Ev.pos h3 (hjt _ _ _ _)
  rw [decide_eq_true (show 0 ≤ b.f1 by omega), Bool.true_and]
  refine Ev.neg h3 (Ev.pos (by omega) (Ev.pos (by omega) ?_))
  obtain ⟨m, hm⟩ := Int.eq_ofNat_of_zero_le (show 0 ≤ b.f0 by omega)
  have hml : m < l.length := by omega
  have hpm := (hs.2 l[m] (List.getElem_mem hml)).1
  have hrp : rd_T43 l b.f0 = l[m] := by rw [hm, rd43 hml]
  rw [hrp]
  by_cases h4 : b.f1 ≥ l[m].f2
  · rw [decide_eq_false (show ¬ b.f1 < l[m].f2 by omega), Bool.false_and]
    exact Ev.pos h4 (hjt _ _ _ _)
  rw [decide_eq_true (show b.f1 < l[m].f2 by omega), Bool.true_and]
  refine Ev.neg h4 ?_
  by_cases h5 : b.f2 ≤ b.f1
  · rw [decide_eq_false (show ¬ b.f1 < b.f2 by omega), Bool.false_and, decide_eq_true h5]
    exact hjt _ _ _ _
  rw [decide_eq_true (show b.f1 < b.f2 by omega), Bool.true_and, decide_eq_false h5]
  refine Ev.succ ?_
  simp only [tree_Tree_forked.j0]
  refine Ev.neg (by decide) (Ev.bind_some hin ?_)
  dsimp only
  cases hasAt b.f1 b.f3 with
  | false => exact Ev.neg (by decide) (Ev.some rfl)
  | true =>
    rw [Bool.true_and]
    refine Ev.pos rfl (Ev.bind (ahead_ev _ _ _ _ b.f3 hsm) (Ev.pos (by omega) (Ev.pos (by omega) ?_)))
    rw [hrp]
    refine Ev.bind (ahead_ev _ _ _ _ l[m].f3 hpm) (Ev.bind (equal_ev _ _ ?_) (Ev.some rfl))
    unfold ahead
    exact Nat.le_trans (List.length_filter_le _ _) hsm
theorem right_l (l : List S43) (hs : smallT l) (d : Nat) : ∀ j, j ≤ l.length → l.length - j = d →
    Ev (fun k => tree_Tree_Right.l0 k l l (l.length : Int) (j : Int)) (rightFrom l j (l.drop j)) := by
  induction d with
  | zero =>
    intro j hj hd
    refine Ev.succ ?_
    simp only [tree_Tree_Right.l0]
    refine Ev.neg (by omega) (Ev.some ?_)
    rw [List.drop_eq_nil_of_le (by omega)]; rfl
  | succ d ih =>
    intro j hj hd
    have hjl : j < l.length := by have := hs.1; omega
    have hsz := hs.1
    have hb := hs.2 l[j] (List.getElem_mem hjl)
    have hfork := forked_ev l hs j hjl
    have hnext := ih (j + 1) (by omega) (by omega)
    rw [List.drop_eq_getElem_cons hjl]
    simp only [rightFrom, branchOk, goodB]
    refine Ev.succ ?_
    simp only [tree_Tree_Right.l0]
    rw [rd43 hjl, wrap_at (by omega) (by omega)]
    generalize l[j] = b at *
    refine Ev.pos (by omega) (Ev.pos (by omega) (Ev.pos (by omega) ?_))
    by_cases h1 : b.f2 < 0
    · rw [decide_eq_false (show ¬ 0 ≤ b.f2 by omega), Bool.false_and, Bool.false_and, Bool.false_and]
      exact Ev.pos h1 (Ev.some rfl)
    rw [decide_eq_true (show 0 ≤ b.f2 by omega), Bool.true_and]
    refine Ev.neg h1 ?_
    by_cases h2 : b.f2 > 512
    · rw [decide_eq_false (show ¬ b.f2 ≤ 512 by omega), Bool.false_and, Bool.false_and, Bool.false_and]
      exact Ev.pos h2 (Ev.some rfl)
    rw [decide_eq_true (show b.f2 ≤ 512 by omega), Bool.true_and]
    refine Ev.neg h2 (Ev.bind (rising_ev b.f3 hb.1 hb.2 b.f0 b.f1 b.f2) ?_)
    cases rising b.f2 (-1) b.f3 with
    | false => exact Ev.neg (by decide) (Ev.some rfl)
    | true =>
      refine Ev.pos rfl ?_
      rw [Bool.true_and]
      by_cases h0 : j = 0
      · rw [if_pos h0]
        refine Ev.pos (by omega) ?_
        by_cases h3 : b.f0 = -1
        · rw [decide_eq_true h3, Bool.true_and]
          refine Ev.pos h3 ?_
          by_cases h4 : b.f1 = 0
          · rw [decide_eq_true h4, Bool.true_and]
            exact Ev.pos h4 (Ev.neg (by omega) hnext)
          · rw [decide_eq_false h4, Bool.false_and]
            exact Ev.neg h4 (Ev.some rfl)
        · rw [decide_eq_false h3, Bool.false_and, Bool.false_and]
          exact Ev.neg h3 (Ev.some rfl)
      · rw [if_neg h0]
        refine Ev.neg (by omega) (Ev.pos (by omega) (Ev.bind hfork ?_))
        cases forkedB l j b with
        | false => exact Ev.neg (by decide) (Ev.some rfl)
        | true => exact Ev.pos rfl (by rw [Bool.true_and]; exact hnext)
theorem right_ev (l : List S43) (hs : smallT l) : Ev (fun k => tree_Tree_Right.f k l) (rightTree l) := by
  have hjt : Ev (fun k => tree_Tree_Right.j0 k l true) false := by
    refine Ev.succ ?_
    simp only [tree_Tree_Right.j0]
    exact Ev.pos trivial (Ev.some rfl)
  unfold tree_Tree_Right.f rightTree
  by_cases h0 : (l.length : Int) = 0
  · rw [decide_eq_false (show ¬ 1 ≤ l.length by omega), Bool.false_and]
    exact Ev.pos h0 hjt
  rw [decide_eq_true (show 1 ≤ l.length by omega), Bool.true_and]
  refine Ev.neg h0 ?_
  by_cases h8 : (l.length : Int) > 8
  · rw [decide_eq_false (show ¬ l.length ≤ 8 by omega), Bool.false_and, decide_eq_true h8]
    exact hjt
  rw [decide_eq_true (show l.length ≤ 8 by omega), Bool.true_and, decide_eq_false h8]
  refine Ev.succ ?_
  simp only [tree_Tree_Right.j0]
  exact Ev.neg (by decide) (right_l l hs _ 0 (by omega) rfl)
end Go.Proofs.YtbngfhlciebeeaaDoor.Sp
end
section
namespace Go.Proofs.YtbngfhlciebeeaaDoor.Sp
set_option linter.unusedVariables false
set_option linter.unusedSimpArgs false
open Go.RowKit Go.Proofs.YtbngfhlciebeeaaDoor.L Go.Proofs.YtbngfhlciebeeaaDoorW.PrintWords
theorem rd65b {l : List S43} {j : Nat} (h : j < l.length) : rd_T65 (l.map b65) (j : Int) = b65 l[j] := by
  rw [rd65 (by rw [List.length_map]; exact h), List.getElem_map]
theorem refRight_l (l : List S43) (hs : smallT l) (d : Nat) : ∀ j, j ≤ l.length → l.length - j = d → (∀ (m : Nat) (hm : m < l.length), m < j → goodB l[m].f2 l[m].f3 = true) →
    Ev (fun k => whirligigref22_Right.l0 k (l.map b65) (j : Int)) (rightFrom l j (l.drop j)) := by
  have hml : (l.map b65).length = l.length := List.length_map ..
  induction d with
  | zero =>
    intro j hj hd _
    refine Ev.succ ?_
    simp only [whirligigref22_Right.l0]
    refine Ev.neg (by omega) (Ev.some ?_)
    rw [List.drop_eq_nil_of_le (by omega)]; rfl
  | succ d ih =>
    intro j hj hd hgood
    have hjl : j < l.length := by have := hs.1; omega
    have hsz := hs.1
    have hb := hs.2 l[j] (List.getElem_mem hjl)
    rw [List.drop_eq_getElem_cons hjl]
    simp only [rightFrom, branchOk]
    refine Ev.succ ?_
    simp only [whirligigref22_Right.l0]
    rw [rd65b hjl, wrap_at (by omega) (by omega)]
    have e0 : (b65 l[j]).f0 = l[j].f0 := rfl
    have e1 : (b65 l[j]).f1 = l[j].f1 := rfl
    have e2 : (b65 l[j]).f2 = l[j].f2 := rfl
    have e3 : (b65 l[j]).f3 = l[j].f3.map i47 := rfl
    rw [e0, e1, e2, e3]
    refine Ev.pos (by omega) (Ev.pos (by omega) (Ev.bind (branch_ev l[j].f3 hb.1 hb.2 l[j].f0 l[j].f1 l[j].f2) ?_))
    cases hg : goodB l[j].f2 l[j].f3 with
    | false => exact Ev.neg (by decide) (Ev.some rfl)
    | true =>
      have hnext := ih (j + 1) (by omega) (by omega) (fun m hm hmj => by
        by_cases h : m = j
        · subst h; exact hg
        · exact hgood m hm (by omega))
      refine Ev.pos rfl ?_
      rw [Bool.true_and]
      by_cases h0 : j = 0
      · rw [if_pos h0]
        refine Ev.pos (by omega) ?_
        by_cases h3 : l[j].f0 = -1
        · rw [decide_eq_true h3, Bool.true_and]
          refine Ev.pos h3 ?_
          by_cases h4 : l[j].f1 = 0
          · rw [decide_eq_true h4, Bool.true_and]
            exact Ev.pos h4 hnext
          · rw [decide_eq_false h4, Bool.false_and]
            exact Ev.neg h4 (Ev.some rfl)
        · rw [decide_eq_false h3, Bool.false_and, Bool.false_and]
          exact Ev.neg h3 (Ev.some rfl)
      · rw [if_neg h0]
        refine Ev.neg (by omega) ?_
        have hjt : ∀ a b c (e : List S47), Ev (fun k => whirligigref22_Right.j2 k (l.map b65) (j : Int) true a b c e) false := fun a b c e => by
          refine Ev.succ ?_
          simp only [whirligigref22_Right.j2]
          exact Ev.pos trivial (Ev.some rfl)
        unfold forkedB
        by_cases h1 : l[j].f0 < 0
        · rw [decide_eq_false (show ¬ 0 ≤ l[j].f0 by omega), Bool.false_and, Bool.false_and]
          exact Ev.pos h1 (hjt _ _ _ _)
        rw [decide_eq_true (show 0 ≤ l[j].f0 by omega), Bool.true_and]
        refine Ev.neg h1 ?_
        by_cases h2 : l[j].f0 ≥ (j : Int)
        · rw [decide_eq_false (show ¬ l[j].f0 < (j : Int) by omega), Bool.false_and, Bool.false_and]
          exact Ev.pos h2 (hjt _ _ _ _)
        rw [decide_eq_true (show l[j].f0 < (j : Int) by omega), Bool.true_and]
        refine Ev.neg h2 ?_
        by_cases h3 : l[j].f1 < 0
        · rw [decide_eq_false (show ¬ 0 ≤ l[j].f1 by omega), Bool.false_and, Bool.false_and]
          exact Ev.pos h3 (hjt _ _ _ _)
        rw [decide_eq_true (show 0 ≤ l[j].f1 by omega), Bool.true_and]
        obtain ⟨m, hm⟩ := Int.eq_ofNat_of_zero_le (show 0 ≤ l[j].f0 by omega)
        have hmlt : m < l.length := by omega
        have hpm := hs.2 l[m] (List.getElem_mem hmlt)
        have hrp : rd_T43 l l[j].f0 = l[m] := by rw [hm, rd43 hmlt]
        have hrp2 : rd_T65 (l.map b65) l[j].f0 = b65 l[m] := by rw [hm, rd65b hmlt]
        rw [hrp, hrp2]
        have p2 : (b65 l[m]).f2 = l[m].f2 := rfl
        rw [p2]
        refine Ev.neg h3 (Ev.pos (by omega) (Ev.pos (by omega) ?_))
        by_cases h4 : l[j].f1 ≥ l[m].f2
        · rw [decide_eq_false (show ¬ l[j].f1 < l[m].f2 by omega), Bool.false_and, Bool.false_and]
          exact Ev.pos h4 (hjt _ _ _ _)
        rw [decide_eq_true (show l[j].f1 < l[m].f2 by omega), Bool.true_and]
        refine Ev.neg h4 ?_
        by_cases h5 : l[j].f2 ≤ l[j].f1
        · rw [decide_eq_false (show ¬ l[j].f1 < l[j].f2 by omega), Bool.false_and, Bool.false_and, decide_eq_true h5]
          exact hjt _ _ _ _
        rw [decide_eq_true (show l[j].f1 < l[j].f2 by omega), Bool.true_and, decide_eq_false h5]
        have hgm := hgood m hmlt (by omega)
        obtain ⟨k1, k2⟩ := moves_fork hg hgm (show 0 ≤ l[j].f1 by omega) (show l[j].f1 < l[m].f2 by omega) (show l[j].f1 < l[j].f2 by omega)
        refine Ev.succ ?_
        simp only [whirligigref22_Right.j2]
        refine Ev.neg (by decide) (Ev.bind (moves_ev l[j].f3 hb.1 _ _ _ hg) (Ev.pos (by omega) (Ev.pos (by rw [gen_length]; omega) ?_)))
        by_cases hk : (rd_T47 (gen 0 l[j].f2.toNat l[j].f3) l[j].f1).f1 = 0
        · have hno : hasAt l[j].f1 l[j].f3 = false := by
            cases hh : hasAt l[j].f1 l[j].f3 with
            | false => rfl
            | true => exact absurd hk (k1.2 hh)
          rw [hno, Bool.false_and, Bool.false_and]
          exact Ev.pos hk (Ev.some rfl)
        · rw [k1.1 hk, Bool.true_and]
          refine Ev.neg hk (Ev.pos (by omega) (Ev.pos (by omega) ?_))
          rw [hrp2]
          refine Ev.bind (common_ev l[m].f3 l[j].f3 hpm.1 hb.1 _ _ _ _ _ _ hgm hg) ?_
          by_cases hc : ((cp (gen 0 l[m].f2.toNat l[m].f3) (gen 0 l[j].f2.toNat l[j].f3) : Nat) : Int) < l[j].f1
          · have hne : eqL (ahead l[j].f1 l[j].f3) (ahead l[j].f1 l[m].f3) = false := by
              cases hh : eqL (ahead l[j].f1 l[j].f3) (ahead l[j].f1 l[m].f3) with
              | false => rfl
              | true => exact absurd hc (k2.2 (eqL_iff.1 hh))
            rw [hne, Bool.false_and]
            exact Ev.pos hc (Ev.some rfl)
          · rw [eqL_iff.2 (k2.1 hc), Bool.true_and, wrap_at (by omega) (by omega)]
            exact Ev.neg hc hnext
theorem refRight_ev (l : List S43) (hs : smallT l) : Ev (fun k => whirligigref22_Right.f k (l.map b65)) (rightTree l) := by
  have hml : (l.map b65).length = l.length := List.length_map ..
  have hjt : Ev (fun k => whirligigref22_Right.j0 k (l.map b65) true) false := by
    refine Ev.succ ?_
    simp only [whirligigref22_Right.j0]
    exact Ev.pos trivial (Ev.some rfl)
  unfold whirligigref22_Right.f rightTree
  by_cases h0 : ((l.map b65).length : Int) < 1
  · rw [decide_eq_false (show ¬ 1 ≤ l.length by omega), Bool.false_and]
    exact Ev.pos h0 hjt
  rw [decide_eq_true (show 1 ≤ l.length by omega), Bool.true_and]
  refine Ev.neg h0 ?_
  by_cases h8 : ((l.map b65).length : Int) > 8
  · rw [decide_eq_false (show ¬ l.length ≤ 8 by omega), Bool.false_and, decide_eq_true h8]
    exact hjt
  rw [decide_eq_true (show l.length ≤ 8 by omega), Bool.true_and, decide_eq_false h8]
  refine Ev.succ ?_
  simp only [whirligigref22_Right.j0]
  exact Ev.neg (by decide) (refRight_l l hs _ 0 (by omega) rfl (fun m hm h => absurd h (by omega)))
end Go.Proofs.YtbngfhlciebeeaaDoor.Sp
end
