/- Printed and hand-written steps towards the row (TreePlays), those that it reaches. -/
import Derived.Test.YtbngfhlciebeeaaDoorTreePlaysG17
import Derived.Test.YtbngfhlciebeeaaDoorTreePlaysG18
import Derived.Test.YtbngfhlciebeeaaDoorTreePlaysLxf36
import Derived.Test.YtbngfhlciebeeaaDoorTreePlaysG4
import Derived.Test.YtbngfhlciebeeaaDoorTreePlaysG5
import Derived.ChangeArms
import Derived.WideShapes
import Derived.DataElems
import Derived.Lib.LaidTab
section
namespace Go.Proofs.YtbngfhlciebeeaaDoor.Sp
set_option linter.unusedVariables false
set_option linter.unusedSimpArgs false
open Go.RowKit Go.Proofs.YtbngfhlciebeeaaDoor.L Go.Proofs.YtbngfhlciebeeaaDoorW.PrintWords
def hasAt (a : Int) (xs : List S45) : Bool := decide (0 ≤ idxAt a xs)
theorem hasAt_iff {a : Int} {xs : List S45} : hasAt a xs = true ↔ ∃ x ∈ xs, x.f0 = a := by
  unfold hasAt
  rw [decide_eq_true_iff]
  unfold idxAt
  cases h : xs.findIdx? (fun x => x.f0 == a) with
  | none =>
    rw [List.findIdx?_eq_none_iff] at h
    simp only
    constructor
    · intro h2; omega
    · rintro ⟨x, hx, he⟩
      have := h x hx
      simp [he] at this
  | some j =>
    rw [List.findIdx?_eq_some_iff_getElem] at h
    obtain ⟨hl, he, _⟩ := h
    constructor
    · intro _; exact ⟨xs[j], List.getElem_mem hl, by simpa using he⟩
    · intro _; simp only; omega
def forkedB (l : List S43) (i : Nat) (b : S43) : Bool :=
  decide (0 ≤ b.f0) && (decide (b.f0 < (i : Int)) && (decide (0 ≤ b.f1) && (decide (b.f1 < (rd_T43 l b.f0).f2) && (decide (b.f1 < b.f2) && (hasAt b.f1 b.f3 && eqL (ahead b.f1 b.f3) (ahead b.f1 (rd_T43 l b.f0).f3))))))
theorem moves_fork {b p : S43} (hb : goodB b.f2 b.f3 = true) (hp : goodB p.f2 p.f3 = true) (h0 : 0 ≤ b.f1) (h1 : b.f1 < p.f2) (h2 : b.f1 < b.f2) :
    (¬ (rd_T47 (gen 0 b.f2.toNat b.f3) b.f1).f1 = 0 ↔ hasAt b.f1 b.f3 = true) ∧
    (¬ ((cp (gen 0 p.f2.toNat p.f3) (gen 0 b.f2.toNat b.f3) : Nat) : Int) < b.f1 ↔ ahead b.f1 b.f3 = ahead b.f1 p.f3) := by
  unfold goodB at hb hp
  simp only [Bool.and_eq_true, decide_eq_true_eq] at hb hp
  obtain ⟨hb0, hb1, hb2⟩ := hb
  obtain ⟨hp0, hp1, hp2⟩ := hp
  obtain ⟨a, ha⟩ := Int.eq_ofNat_of_zero_le h0
  rw [ha] at h1 h2 ⊢
  constructor
  · have hg := gen_at b.f2.toNat 0 b.f3 (-1) hb2 (by omega) a (by omega)
    rw [Nat.zero_add] at hg
    have hlt : a < (gen 0 b.f2.toNat b.f3).length := by rw [gen_length]; omega
    rw [rd47 hlt]
    rw [List.getElem?_eq_getElem hlt] at hg
    rw [Option.some.inj hg, hasAt_iff]
    cases hf : b.f3.find? (fun x => x.f0 == (a : Int)) with
    | none =>
      rw [List.find?_eq_none] at hf
      constructor
      · intro h; exact absurd rfl h
      · rintro ⟨x, hx, he⟩; exact absurd (by simpa using he) (hf x hx)
    | some x =>
      have hm := List.mem_of_find?_eq_some hf
      have he := List.find?_some hf
      constructor
      · intro _; exact ⟨x, hm, by simpa using he⟩
      · intro _; exact rightI_kind (rising_mem hb2 x hm).1
  · have hc := cp_ge (gen 0 p.f2.toNat p.f3) (gen 0 b.f2.toNat b.f3) a (by rw [gen_length]; omega) (by rw [gen_length]; omega)
    rw [gen_take a _ _ _ (by omega), gen_take a _ _ _ (by omega), gen_ahead a 0 p.f3 b.f3 (-1) (-1) (by
      exact hp2) (by exact hb2) (by omega) (by omega), Nat.zero_add] at hc
    constructor
    · intro h; exact (hc.1 (by omega)).symm
    · intro h; have := hc.2 h.symm; omega
def smallT (l : List S43) : Prop := l.length ≤ 1000000 ∧ ∀ b ∈ l, b.f3.length ≤ 1000000 ∧ ∀ x ∈ b.f3, x.f2.size ≤ 1000000
def branchOk (l : List S43) (i : Nat) (b : S43) : Bool := goodB b.f2 b.f3 && (if i = 0 then decide (b.f0 = -1) && decide (b.f1 = 0) else forkedB l i b)
def rightFrom (l : List S43) : Nat → List S43 → Bool
  | _, [] => true
  | i, b :: bs => branchOk l i b && rightFrom l (i + 1) bs
def rightTree (l : List S43) : Bool := decide (1 ≤ l.length) && (decide (l.length ≤ 8) && rightFrom l 0 l)
theorem input_eq (l : List S43) (i : Nat) (hi : i < l.length) (a : Int) : ∃ x0 x1 x2 x3, tree_Tree_Input.f l (i : Int) a = some (x0, x1, x2, x3, hasAt a l[i].f3) := by
  unfold tree_Tree_Input.f hasAt
  rw [if_pos ⟨by omega, by omega⟩, rd43 hi]
  by_cases h : 0 ≤ idxAt a l[i].f3
  · rw [if_pos h, decide_eq_true h]; exact ⟨_, _, _, _, rfl⟩
  · rw [if_neg h, decide_eq_false h]; exact ⟨_, _, _, _, rfl⟩
theorem forked_ev (l : List S43) (hs : smallT l) (i : Nat) (hi : i < l.length) : Ev (fun k => tree_Tree_forked.f k l (i : Int)) (forkedB l i l[i]) := by
  have hjt : ∀ a b c (d : List S45), Ev (fun k => tree_Tree_forked.j0 k l (i : Int) true a b c d) false := fun a b c d => by
    refine Ev.succ ?_
    simp only [tree_Tree_forked.j0]
    exact Ev.pos trivial (Ev.some rfl)
  have hsm := (hs.2 l[i] (List.getElem_mem hi)).1
  obtain ⟨x0, x1, x2, x3, hin⟩ := input_eq l i hi l[i].f1
  unfold tree_Tree_forked.f forkedB
  rw [rd43 hi]
  generalize l[i] = b at *
  refine Ev.pos (by omega) (Ev.pos (by omega) ?_)
  by_cases h1 : b.f0 < 0
  · rw [decide_eq_false (show ¬ 0 ≤ b.f0 by omega), Bool.false_and]
    exact Ev.pos h1 (hjt _ _ _ _)
  rw [decide_eq_true (show 0 ≤ b.f0 by omega), Bool.true_and]
  refine Ev.neg h1 ?_
  by_cases h2 : b.f0 ≥ (i : Int)
  · rw [decide_eq_false (show ¬ b.f0 < (i : Int) by omega), Bool.false_and]
    exact Ev.pos h2 (hjt _ _ _ _)
  rw [decide_eq_true (show b.f0 < (i : Int) by omega), Bool.true_and]
  refine Ev.neg h2 ?_
  by_cases h3 : b.f1 < 0
  · rw [decide_eq_false (show ¬ 0 ≤ b.f1 by omega), Bool.false_and]
    exact Ev.pos h3 (hjt _ _ _ _)
  rw [decide_eq_true (show 0 ≤ b.f1 by omega), Bool.true_and]
  refine Ev.neg h3 (Ev.pos (by omega) (Ev.pos (by omega) ?_))
  obtain ⟨m, hm⟩ := Int.eq_ofNat_of_zero_le (show 0 ≤ b.f0 by omega)
  have hml : m < l.length := by omega
  have hpm := (hs.2 l[m] (List.getElem_mem hml)).1
  have hrp : rd_T43 l b.f0 = l[m] := by rw [hm, rd43 hml]
  rw [hrp]
  by_cases h4 : b.f1 ≥ l[m].f2
  · rw [decide_eq_false (show ¬ b.f1 < l[m].f2 by omega), Bool.false_and]
    exact Ev.pos h4 (hjt _ _ _ _)
  rw [decide_eq_true (show b.f1 < l[m].f2 by omega), Bool.true_and]
  refine Ev.neg h4 ?_
  by_cases h5 : b.f2 ≤ b.f1
  · rw [decide_eq_false (show ¬ b.f1 < b.f2 by omega), Bool.false_and, decide_eq_true h5]
    exact hjt _ _ _ _
  rw [decide_eq_true (show b.f1 < b.f2 by omega), Bool.true_and, decide_eq_false h5]
  refine Ev.succ ?_
  simp only [tree_Tree_forked.j0]
  refine Ev.neg (by decide) (Ev.bind_some hin ?_)
  dsimp only
  cases hasAt b.f1 b.f3 with
  | false => exact Ev.neg (by decide) (Ev.some rfl)
  | true =>
    rw [Bool.true_and]
    refine Ev.pos rfl (Ev.bind (ahead_ev _ _ _ _ b.f3 hsm) (Ev.pos (by omega) (Ev.pos (by omega) ?_)))
    rw [hrp]
    refine Ev.bind (ahead_ev _ _ _ _ l[m].f3 hpm) (Ev.bind (equal_ev _ _ ?_) (Ev.some rfl))
    unfold ahead
    exact Nat.le_trans (List.length_filter_le _ _) hsm
theorem right_l (l : List S43) (hs : smallT l) (d : Nat) : ∀ j, j ≤ l.length → l.length - j = d →
    Ev (fun k => tree_Tree_Right.l0 k l l (l.length : Int) (j : Int)) (rightFrom l j (l.drop j)) := by
  induction d with
  | zero =>
    intro j hj hd
    refine Ev.succ ?_
    simp only [tree_Tree_Right.l0]
    refine Ev.neg (by omega) (Ev.some ?_)
    rw [List.drop_eq_nil_of_le (by omega)]; rfl
  | succ d ih =>
    intro j hj hd
    have hjl : j < l.length := by have := hs.1; omega
    have hsz := hs.1
    have hb := hs.2 l[j] (List.getElem_mem hjl)
    have hfork := forked_ev l hs j hjl
    have hnext := ih (j + 1) (by omega) (by omega)
    rw [List.drop_eq_getElem_cons hjl]
    simp only [rightFrom, branchOk, goodB]
    refine Ev.succ ?_
    simp only [tree_Tree_Right.l0]
    rw [rd43 hjl, wrap_at (by omega) (by omega)]
    generalize l[j] = b at *
    refine Ev.pos (by omega) (Ev.pos (by omega) (Ev.pos (by omega) ?_))
    by_cases h1 : b.f2 < 0
    · rw [decide_eq_false (show ¬ 0 ≤ b.f2 by omega), Bool.false_and, Bool.false_and, Bool.false_and]
      exact Ev.pos h1 (Ev.some rfl)
    rw [decide_eq_true (show 0 ≤ b.f2 by omega), Bool.true_and]
    refine Ev.neg h1 ?_
    by_cases h2 : b.f2 > 512
    · rw [decide_eq_false (show ¬ b.f2 ≤ 512 by omega), Bool.false_and, Bool.false_and, Bool.false_and]
      exact Ev.pos h2 (Ev.some rfl)
    rw [decide_eq_true (show b.f2 ≤ 512 by omega), Bool.true_and]
    refine Ev.neg h2 (Ev.bind (rising_ev b.f3 hb.1 hb.2 b.f0 b.f1 b.f2) ?_)
    cases rising b.f2 (-1) b.f3 with
    | false => exact Ev.neg (by decide) (Ev.some rfl)
    | true =>
      refine Ev.pos rfl ?_
      rw [Bool.true_and]
      by_cases h0 : j = 0
      · rw [if_pos h0]
        refine Ev.pos (by omega) ?_
        by_cases h3 : b.f0 = -1
        · rw [decide_eq_true h3, Bool.true_and]
          refine Ev.pos h3 ?_
          by_cases h4 : b.f1 = 0
          · rw [decide_eq_true h4, Bool.true_and]
            exact Ev.pos h4 (Ev.neg (by omega) hnext)
          · rw [decide_eq_false h4, Bool.false_and]
            exact Ev.neg h4 (Ev.some rfl)
        · rw [decide_eq_false h3, Bool.false_and, Bool.false_and]
          exact Ev.neg h3 (Ev.some rfl)
      · rw [if_neg h0]
        refine Ev.neg (by omega) (Ev.pos (by omega) (Ev.bind hfork ?_))
        cases forkedB l j b with
        | false => exact Ev.neg (by decide) (Ev.some rfl)
        | true => exact Ev.pos rfl (by rw [Bool.true_and]; exact hnext)
theorem right_ev (l : List S43) (hs : smallT l) : Ev (fun k => tree_Tree_Right.f k l) (rightTree l) := by
  have hjt : Ev (fun k => tree_Tree_Right.j0 k l true) false := by
    refine Ev.succ ?_
    simp only [tree_Tree_Right.j0]
    exact Ev.pos trivial (Ev.some rfl)
  unfold tree_Tree_Right.f rightTree
  by_cases h0 : (l.length : Int) = 0
  · rw [decide_eq_false (show ¬ 1 ≤ l.length by omega), Bool.false_and]
    exact Ev.pos h0 hjt
  rw [decide_eq_true (show 1 ≤ l.length by omega), Bool.true_and]
  refine Ev.neg h0 ?_
  by_cases h8 : (l.length : Int) > 8
  · rw [decide_eq_false (show ¬ l.length ≤ 8 by omega), Bool.false_and, decide_eq_true h8]
    exact hjt
  rw [decide_eq_true (show l.length ≤ 8 by omega), Bool.true_and, decide_eq_false h8]
  refine Ev.succ ?_
  simp only [tree_Tree_Right.j0]
  exact Ev.neg (by decide) (right_l l hs _ 0 (by omega) rfl)
theorem rd65b {l : List S43} {j : Nat} (h : j < l.length) : rd_T65 (l.map b65) (j : Int) = b65 l[j] := by
  rw [rd65 (by rw [List.length_map]; exact h), List.getElem_map]
theorem refRight_l (l : List S43) (hs : smallT l) (d : Nat) : ∀ j, j ≤ l.length → l.length - j = d → (∀ (m : Nat) (hm : m < l.length), m < j → goodB l[m].f2 l[m].f3 = true) →
    Ev (fun k => whirligigref22_Right.l0 k (l.map b65) (j : Int)) (rightFrom l j (l.drop j)) := by
  have hml : (l.map b65).length = l.length := List.length_map ..
  induction d with
  | zero =>
    intro j hj hd _
    refine Ev.succ ?_
    simp only [whirligigref22_Right.l0]
    refine Ev.neg (by omega) (Ev.some ?_)
    rw [List.drop_eq_nil_of_le (by omega)]; rfl
  | succ d ih =>
    intro j hj hd hgood
    have hjl : j < l.length := by have := hs.1; omega
    have hsz := hs.1
    have hb := hs.2 l[j] (List.getElem_mem hjl)
    rw [List.drop_eq_getElem_cons hjl]
    simp only [rightFrom, branchOk]
    refine Ev.succ ?_
    simp only [whirligigref22_Right.l0]
    rw [rd65b hjl, wrap_at (by omega) (by omega)]
    have e0 : (b65 l[j]).f0 = l[j].f0 := rfl
    have e1 : (b65 l[j]).f1 = l[j].f1 := rfl
    have e2 : (b65 l[j]).f2 = l[j].f2 := rfl
    have e3 : (b65 l[j]).f3 = l[j].f3.map i47 := rfl
    rw [e0, e1, e2, e3]
    refine Ev.pos (by omega) (Ev.pos (by omega) (Ev.bind (branch_ev l[j].f3 hb.1 hb.2 l[j].f0 l[j].f1 l[j].f2) ?_))
    cases hg : goodB l[j].f2 l[j].f3 with
    | false => exact Ev.neg (by decide) (Ev.some rfl)
    | true =>
      have hnext := ih (j + 1) (by omega) (by omega) (fun m hm hmj => by
        by_cases h : m = j
        · subst h; exact hg
        · exact hgood m hm (by omega))
      refine Ev.pos rfl ?_
      rw [Bool.true_and]
      by_cases h0 : j = 0
      · rw [if_pos h0]
        refine Ev.pos (by omega) ?_
        by_cases h3 : l[j].f0 = -1
        · rw [decide_eq_true h3, Bool.true_and]
          refine Ev.pos h3 ?_
          by_cases h4 : l[j].f1 = 0
          · rw [decide_eq_true h4, Bool.true_and]
            exact Ev.pos h4 hnext
          · rw [decide_eq_false h4, Bool.false_and]
            exact Ev.neg h4 (Ev.some rfl)
        · rw [decide_eq_false h3, Bool.false_and, Bool.false_and]
          exact Ev.neg h3 (Ev.some rfl)
      · rw [if_neg h0]
        refine Ev.neg (by omega) ?_
        have hjt : ∀ a b c (e : List S47), Ev (fun k => whirligigref22_Right.j2 k (l.map b65) (j : Int) true a b c e) false := fun a b c e => by
          refine Ev.succ ?_
          simp only [whirligigref22_Right.j2]
          exact Ev.pos trivial (Ev.some rfl)
        unfold forkedB
        by_cases h1 : l[j].f0 < 0
        · rw [decide_eq_false (show ¬ 0 ≤ l[j].f0 by omega), Bool.false_and, Bool.false_and]
          exact Ev.pos h1 (hjt _ _ _ _)
        rw [decide_eq_true (show 0 ≤ l[j].f0 by omega), Bool.true_and]
        refine Ev.neg h1 ?_
        by_cases h2 : l[j].f0 ≥ (j : Int)
        · rw [decide_eq_false (show ¬ l[j].f0 < (j : Int) by omega), Bool.false_and, Bool.false_and]
          exact Ev.pos h2 (hjt _ _ _ _)
        rw [decide_eq_true (show l[j].f0 < (j : Int) by omega), Bool.true_and]
        refine Ev.neg h2 ?_
        by_cases h3 : l[j].f1 < 0
        · rw [decide_eq_false (show ¬ 0 ≤ l[j].f1 by omega), Bool.false_and, Bool.false_and]
          exact Ev.pos h3 (hjt _ _ _ _)
        rw [decide_eq_true (show 0 ≤ l[j].f1 by omega), Bool.true_and]
        obtain ⟨m, hm⟩ := Int.eq_ofNat_of_zero_le (show 0 ≤ l[j].f0 by omega)
        have hmlt : m < l.length := by omega
        have hpm := hs.2 l[m] (List.getElem_mem hmlt)
        have hrp : rd_T43 l l[j].f0 = l[m] := by rw [hm, rd43 hmlt]
        have hrp2 : rd_T65 (l.map b65) l[j].f0 = b65 l[m] := by rw [hm, rd65b hmlt]
        rw [hrp, hrp2]
        have p2 : (b65 l[m]).f2 = l[m].f2 := rfl
        rw [p2]
        refine Ev.neg h3 (Ev.pos (by omega) (Ev.pos (by omega) ?_))
        by_cases h4 : l[j].f1 ≥ l[m].f2
        · rw [decide_eq_false (show ¬ l[j].f1 < l[m].f2 by omega), Bool.false_and, Bool.false_and]
          exact Ev.pos h4 (hjt _ _ _ _)
        rw [decide_eq_true (show l[j].f1 < l[m].f2 by omega), Bool.true_and]
        refine Ev.neg h4 ?_
        by_cases h5 : l[j].f2 ≤ l[j].f1
        · rw [decide_eq_false (show ¬ l[j].f1 < l[j].f2 by omega), Bool.false_and, Bool.false_and, decide_eq_true h5]
          exact hjt _ _ _ _
        rw [decide_eq_true (show l[j].f1 < l[j].f2 by omega), Bool.true_and, decide_eq_false h5]
        have hgm := hgood m hmlt (by omega)
        obtain ⟨k1, k2⟩ := moves_fork hg hgm (show 0 ≤ l[j].f1 by omega) (show l[j].f1 < l[m].f2 by omega) (show l[j].f1 < l[j].f2 by omega)
        refine Ev.succ ?_
        simp only [whirligigref22_Right.j2]
        refine Ev.neg (by decide) (Ev.bind (moves_ev l[j].f3 hb.1 _ _ _ hg) (Ev.pos (by omega) (Ev.pos (by rw [gen_length]; omega) ?_)))
        by_cases hk : (rd_T47 (gen 0 l[j].f2.toNat l[j].f3) l[j].f1).f1 = 0
        · have hno : hasAt l[j].f1 l[j].f3 = false := by
            cases hh : hasAt l[j].f1 l[j].f3 with
            | false => rfl
            | true => exact absurd hk (k1.2 hh)
          rw [hno, Bool.false_and, Bool.false_and]
          exact Ev.pos hk (Ev.some rfl)
        · rw [k1.1 hk, Bool.true_and]
          refine Ev.neg hk (Ev.pos (by omega) (Ev.pos (by omega) ?_))
          rw [hrp2]
          refine Ev.bind (common_ev l[m].f3 l[j].f3 hpm.1 hb.1 _ _ _ _ _ _ hgm hg) ?_
          by_cases hc : ((cp (gen 0 l[m].f2.toNat l[m].f3) (gen 0 l[j].f2.toNat l[j].f3) : Nat) : Int) < l[j].f1
          · have hne : eqL (ahead l[j].f1 l[j].f3) (ahead l[j].f1 l[m].f3) = false := by
              cases hh : eqL (ahead l[j].f1 l[j].f3) (ahead l[j].f1 l[m].f3) with
              | false => rfl
              | true => exact absurd hc (k2.2 (eqL_iff.1 hh))
            rw [hne, Bool.false_and]
            exact Ev.pos hc (Ev.some rfl)
          · rw [eqL_iff.2 (k2.1 hc), Bool.true_and, wrap_at (by omega) (by omega)]
            exact Ev.neg hc hnext
theorem refRight_ev (l : List S43) (hs : smallT l) : Ev (fun k => whirligigref22_Right.f k (l.map b65)) (rightTree l) := by
  have hml : (l.map b65).length = l.length := List.length_map ..
  have hjt : Ev (fun k => whirligigref22_Right.j0 k (l.map b65) true) false := by
    refine Ev.succ ?_
    simp only [whirligigref22_Right.j0]
    exact Ev.pos trivial (Ev.some rfl)
  unfold whirligigref22_Right.f rightTree
  by_cases h0 : ((l.map b65).length : Int) < 1
  · rw [decide_eq_false (show ¬ 1 ≤ l.length by omega), Bool.false_and]
    exact Ev.pos h0 hjt
  rw [decide_eq_true (show 1 ≤ l.length by omega), Bool.true_and]
  refine Ev.neg h0 ?_
  by_cases h8 : ((l.map b65).length : Int) > 8
  · rw [decide_eq_false (show ¬ l.length ≤ 8 by omega), Bool.false_and, decide_eq_true h8]
    exact hjt
  rw [decide_eq_true (show l.length ≤ 8 by omega), Bool.true_and, decide_eq_false h8]
  refine Ev.succ ?_
  simp only [whirligigref22_Right.j0]
  exact Ev.neg (by decide) (refRight_l l hs _ 0 (by omega) rfl (fun m hm h => absurd h (by omega)))
end Go.Proofs.YtbngfhlciebeeaaDoor.Sp
end
section
namespace Go.Proofs.YtbngfhlciebeeaaDoor.L
open Go.RowKit Go.Proofs.YtbngfhlciebeeaaDoorW.PrintWords Go.Proofs.YtbngfhlciebeeaaDoorW.PrintLast Go.Proofs.YtbngfhlciebeeaaDoorW.PrintMore
attribute [local go_sem] max2_int min2_int max_two min_two max_three min_three max_four min_four   -- for this text's walks alone
set_option linter.unusedVariables false
set_option linter.unusedSimpArgs false
mutual
def whirligiglaw22_refs.l0 : Nat → List (S65) → List (S43) → Int → Int → Option ((List (S65)))
 | 0, _, _, _, _ => none
 | k + 1, x3, x9, x10, x11 => if x11 < x10 then (if 0 ≤ x11 then (if x11 < (x9.length : Int) then (whirligiglaw22_refs.l1 k x3 x9 x10 x11 ((rd_T43 x9 x11).f3) (((rd_T43 x9 x11).f3).length : Int) 0 ((rd_T43 x9 x11).f0) ((rd_T43 x9 x11).f1) ((rd_T43 x9 x11).f2) ([] : List (S47))) else (none)) else (none)) else (some x3)
def whirligiglaw22_refs.l1 : Nat → List (S65) → List (S43) → Int → Int → List (S45) → Int → Int → Int → Int → Int → List (S47) → Option ((List (S65)))
 | 0, _, _, _, _, _, _, _, _, _, _, _ => none
 | k + 1, x3, x9, x10, x11, x23, x24, x25, x476000, x476001, x476002, x476003 => if x25 < x24 then (if 0 ≤ x25 then (if x25 < (x23.length : Int) then (if x476003.length < 3518437208883 then (whirligiglaw22_refs.l1 k x3 x9 x10 x11 x23 x24 (wrap64 (x25 + 1)) x476000 x476001 x476002 (x476003 ++ [(⟨(rd_T45 x23 x25).f0, (rd_T45 x23 x25).f1, (rd_T45 x23 x25).f2, (rd_T45 x23 x25).f3⟩ : S47)])) else (none)) else (none)) else (none)) else (if x3.length < 2932031007402 then (whirligiglaw22_refs.l0 k (x3 ++ [(⟨x476000, x476001, x476002, x476003⟩ : S65)]) x9 x10 (wrap64 (x11 + 1))) else (none))
end
def whirligiglaw22_refs.f (k : Nat) (l0 : List (S43)) : Option ((List (S65))) := whirligiglaw22_refs.l0 k ([] : List (S65)) l0 (l0.length : Int) 0
set_option maxHeartbeats 8000000 in
set_option maxRecDepth 100000 in
theorem whirligiglaw22_refs.calls (k : Nat) (A0 : Option Addr) (c0 : Nat) (l0 : List (S43)) (r : List (S65)) (w : World) (hr0 : Kd.C k43 w A0 l0.length l0) (hc0 : l0.length ≤ c0) (h : whirligiglaw22_refs.f k l0 = some r) :
  Calls Tryd.prog 37 #[.slice A0 l0.length c0] w fun e w' => ∃ v0_ : Value, e = .returned (v0_) ∧ Kd.S k65 65 w' w.heap.size (fun _ => True) v0_ r ∧ Below w.heap.size w w' := by
 have hu43 := Tryd.underlying43
 have hu65 := Tryd.underlying65
 have hu45 := Tryd.underlying45
 have HR0 := Aside0.mk hr0
 have HC0 := Aside0.mk hc0
 clear hr0 hc0
 have HB := Aside0.mk (Below.refl w.heap.size w)
 have H : (whirligiglaw22_refs.l0 k ([] : List (S65)) l0 (l0.length : Int) 0) = some r := h
 clear h
 have H' := Aside0.mk H
 clear H
 go_enter Tryd.func37, Tryd.ntmps37
 go_wp2
 go_loopg [3, 11] k (fun kq v3 v11 w' => ∃ (x3_1 : List (S65)) (x11_1 : Int), v11 = .int .i64 x11_1 ∧ Aside0 (whirligiglaw22_refs.l0 kq x3_1 l0 (l0.length : Int) x11_1 = some r) ∧ Aside0 (kq ≤ k) ∧ Aside0 (Kd.S k65 65 w' w.heap.size (fun _ => True) v3 x3_1) ∧ Aside0 (Below w.heap.size w w'))
 case atStart => exact ⟨(([] : List (S65))), (0), qE, H', ⟨Nat.le_refl _⟩, ⟨by first | exact Kd.S_nil _ _ _ _ _ | exact Kd.N_nil _ _ _ _ _ | exact Kd.V_nil _ _ _ _ _ | exact Kd.Q_nil _ _ _ _ _ | exact Kd.R_nil _ _ _ _ _⟩, ⟨qB⟩⟩
 case round =>
  clear H'
  obtain ⟨x3_1, x11_1, rfl, HA, HK1, HO_3, HB⟩ := hrel
  cases gk with
  | zero => exact absurd HA.out (by simp [whirligiglaw22_refs.l0])
  | succ k1 =>
   have H := HA.out
   clear HA
   simp only [whirligiglaw22_refs.l0] at H
   by_cases c2 : x11_1 < (l0.length : Int)
   ·rw [if_pos c2] at H
    have c2b0 := decide_eq_true c2
    clear c2
    by_cases c3 : 0 ≤ x11_1
    ·rw [if_pos c3] at H; have c3b0 := decide_eq_true c3; clear c3
     by_cases c4 : x11_1 < (l0.length : Int)
     ·rw [if_pos c4] at H; have c4b0 := decide_eq_true c4; clear c4; have H' := Aside0.mk H; clear H; have p473 : 0 ≤ (x11_1 : Int) := qD; have q473 : x11_1 < (l0.length : Int) := qD; obtain ⟨ad473, A473_3, c473_3, e473, hx473_0, hx473_1, hx473_2, hx473_3, hl473_3, hi473_3⟩ := at_T43 HR0.out x11_1 p473 q473; cases e473; replace hx473_0 := pw_cell_below HB.out hx473_0; replace hx473_1 := pw_cell_below HB.out hx473_1; replace hx473_2 := pw_cell_below HB.out hx473_2; replace hx473_3 := pw_cell_below HB.out hx473_3; have HR473_3 := Aside0.mk hi473_3; have HC473_3 := Aside0.mk hl473_3; clear hi473_3 hl473_3; replace p473 := eq_true p473; replace q473 := eq_true q473
      go_wp2_with (first | ((with_reducible refine gd 5 rfl ?_); refine bx 5 #[.int .i64 0, .int .i64 0, .int .i64 0, .slice none 0 0] 43 ?_; intro gb474 hg w5 hbox hb; have n0_ := Aside0.mk (Kd.S_below (by (with_reducible repeat (first | apply Kd.S_alloc | apply Kd.S_drewN | apply Kd.S_drew)); exact HO_3.out) hb); have n1_ := bst hb; have n2_ := Aside0.mk (hbox); have n3_ := geS hg; have n4_ := geS hg; clear HO_3; clear HB; have HO_3 := n0_; have HB := n1_; have BK474 := n2_; have GW474 := n3_; have GE474 := n4_; clear n0_ n1_ n2_ n3_ n4_; clear hb hbox hg; obtain ⟨_, _, _, _, _, _, _, _⟩ := cells4 BK474.out) | ((with_reducible refine gd 6 rfl ?_); refine bx 6 #[.int .i64 0, .int .i64 0, .int .i64 0, .slice none 0 0] 65 ?_; intro gb475 hg w7 hbox hb; have n0_ := Aside0.mk (Kd.S_below (Kd.S_elderB (by (with_reducible repeat (first | apply Kd.S_alloc | apply Kd.S_drewN | apply Kd.S_drew)); exact (Kd.S_mono (Kd.S_far (p := ⟨gb474, 3, none⟩) (Kd.S_far (p := ⟨gb474, 2, none⟩) (Kd.S_far (p := ⟨gb474, 1, none⟩) (Kd.S_far (p := ⟨gb474, 0, none⟩) (Kd.S_types HO_3.out BK474.out (by decide)) (fun _ hk => hk.2) (.int .i64 ((rd_T43 l0 x11_1).f0))) (fun _ hk => hk.2) (.int .i64 ((rd_T43 l0 x11_1).f1))) (fun _ hk => hk.2) (.int .i64 ((rd_T43 l0 x11_1).f2))) (fun _ hk => hk.2) (.slice A473_3 ((rd_T43 l0 x11_1).f3).length c473_3)) (fun _ h_ => h_.1))) gb475 (Nat.le_of_eq hg.symm)) hb); have n1_ := kp gb474 (.cells #[.int .i64 ((rd_T43 l0 x11_1).f0), .int .i64 ((rd_T43 l0 x11_1).f1), .int .i64 ((rd_T43 l0 x11_1).f2), .slice A473_3 ((rd_T43 l0 x11_1).f3).length c473_3] 43 (0, 0)) hb; have n2_ := bst hb; have n3_ := Aside0.mk (hbox); have n4_ := geS hg; have n5_ := geS hg; have n6_ := neS gb474 hg; have n7_ := neT gb474 hg; clear HO_3; clear BK474; clear HB; have HO_3 := n0_; have BK474 := n1_; have HB := n2_; have BK475 := n3_; have GW475 := n4_; have GE475 := n5_; have NB474_475 := n6_; have NB475_474 := n7_; clear n0_ n1_ n2_ n3_ n4_ n5_ n6_ n7_; clear hb hbox hg; have := NB475_474.out; have := NB474_475.out; obtain ⟨_, _, _, _, _, _, _, _⟩ := cells4 BK475.out; obtain ⟨_, _, _, _, _, _, _, _⟩ := cells4 BK474.out))
      go_loopg [25] k1 (fun kq v25 w' => ∃ (x25_2 : Int) (x476003_2 : List (S47)) (u476003 : Value), v25 = .int .i64 x25_2 ∧ Aside0 (whirligiglaw22_refs.l1 kq x3_1 l0 (l0.length : Int) x11_1 ((rd_T43 l0 x11_1).f3) (((rd_T43 l0 x11_1).f3).length : Int) x25_2 ((rd_T43 l0 x11_1).f0) ((rd_T43 l0 x11_1).f1) ((rd_T43 l0 x11_1).f2) x476003_2 = some r) ∧ Aside0 (kq ≤ k1) ∧ Aside0 (Kd.S k65 65 w' w.heap.size (fun k_ => some k_ ≠ (u476003 : Value).ownBlock ∧ k_ ≠ gb475) u3 x3_1) ∧ Aside0 (Kd.R k47 47 w' w.heap.size (fun _ => True) u476003 x476003_2) ∧ Aside0 (w'.heap[gb474]? = some (.cells #[.int .i64 ((rd_T43 l0 x11_1).f0), .int .i64 ((rd_T43 l0 x11_1).f1), .int .i64 ((rd_T43 l0 x11_1).f2), (.slice A473_3 ((rd_T43 l0 x11_1).f3).length c473_3)] 43 (0, 0))) ∧ Aside0 (w'.heap[gb475]? = some (.cells #[.int .i64 ((rd_T43 l0 x11_1).f0), .int .i64 ((rd_T43 l0 x11_1).f1), .int .i64 ((rd_T43 l0 x11_1).f2), u476003] 65 (0, 0))) ∧ Aside0 (Below w.heap.size w w'))
      case atStart => exact ⟨(0), (([] : List (S47))), (.slice none 0 0), qE, H', ⟨Nat.le_refl _⟩, ⟨by (with_reducible repeat (first | apply Kd.S_alloc | apply Kd.S_drewN | apply Kd.S_drew)); exact Kd.S_mono (Kd.S_far (p := ⟨gb475, 3, none⟩) (Kd.S_far (p := ⟨gb475, 2, none⟩) (Kd.S_far (p := ⟨gb475, 1, none⟩) (Kd.S_far (p := ⟨gb475, 0, none⟩) (Kd.S_mono HO_3.out (fun k_ hk => (⟨hk, hk.2⟩ : _ ∧ k_ ≠ gb475))) (fun _ hk => hk.2) (.int .i64 ((rd_T43 l0 x11_1).f0))) (fun _ hk => hk.2) (.int .i64 ((rd_T43 l0 x11_1).f1))) (fun _ hk => hk.2) (.int .i64 ((rd_T43 l0 x11_1).f2))) (fun _ hk => hk.2) (.slice none 0 0)) (fun _ hk => ⟨(by simp [Value.ownBlock]), hk.1.2⟩)⟩, ⟨by first | exact Kd.R_nil _ _ _ _ _ | exact Kd.N_nil _ _ _ _ _ | exact Kd.V_nil _ _ _ _ _ | exact Kd.Q_nil _ _ _ _ _ | exact Kd.S_nil _ _ _ _ _⟩, ⟨qK⟩, ⟨qP⟩, ⟨qB⟩⟩
      case round =>
       clear H'
       try clear p2
       try clear p4
       try clear q4
       try clear hx4
       try clear hx473_0
       try clear hx473_1
       try clear hx473_2
       try clear hx473_3
       try clear p473
       try clear q473
       obtain ⟨x25_2, x476003_2, u476003, rfl, HA, HK2, HO_3, HO_476003, BK474, BK475, HB⟩ := hrel; cases gk with
       | zero => exact absurd HA.out (by simp [whirligiglaw22_refs.l1])
       | succ k2 =>
        have H := HA.out; clear HA; simp only [whirligiglaw22_refs.l1] at H; replace H := iD H
        rcases H with ⟨c11b0, H⟩ | ⟨c11b0, H⟩
        ·by_cases c12 : 0 ≤ x25_2
         ·rw [if_pos c12] at H; have c12b0 := decide_eq_true c12; clear c12; replace H := iD H
          rcases H with ⟨c13b0, H⟩ | ⟨c13b0, H⟩
          ·by_cases c14 : x476003_2.length < 3518437208883
           ·rw [if_pos c14] at H; have LMc14 := Aside0.mk c14; clear c14; obtain ⟨y478, hy478⟩ : ∃ y_ : List (S47), y_ = (x476003_2 ++ [(⟨(rd_T45 ((rd_T43 l0 x11_1).f3) x25_2).f0, (rd_T45 ((rd_T43 l0 x11_1).f3) x25_2).f1, (rd_T45 ((rd_T43 l0 x11_1).f3) x25_2).f2, (rd_T45 ((rd_T43 l0 x11_1).f3) x25_2).f3⟩ : S47)]) := ⟨_, rfl⟩; replace H : (whirligiglaw22_refs.l1 k2 x3_1 l0 (l0.length : Int) x11_1 ((rd_T43 l0 x11_1).f3) (((rd_T43 l0 x11_1).f3).length : Int) (wrap64 (x25_2 + 1)) ((rd_T43 l0 x11_1).f0) ((rd_T43 l0 x11_1).f1) ((rd_T43 l0 x11_1).f2) y478) = some r := by first | (rw [hy478]; with_reducible exact H) | (have H2_ := (Option.bind_some _ _).symm.trans H; rw [hy478]; with_reducible exact H2_) | (have H2_ := (Option.bind_some _ _).symm.trans H; with_reducible exact H2_) | with_reducible exact H | (rw [hy478]; exact H) | exact H
            have Ny478 := Aside0.mk hy478; clear hy478; have H' := Aside0.mk H; clear H; have p476 : 0 ≤ (x25_2 : Int) := qD; have q476 : x25_2 < (((rd_T43 l0 x11_1).f3).length : Int) := qD; obtain ⟨ad476, e476, hx476_0, hx476_1, hx476_2, hx476_3⟩ := at_T45 (Kd.C_below HR473_3.out HB.out) x25_2 p476 q476; cases e476; replace p476 := eq_true p476; replace q476 := eq_true q476
            go_wp2_with (first | ((with_reducible refine gd 8 rfl ?_); refine bx 8 #[.int .i64 0, .int .i64 0, .string (⟨#[]⟩ : ByteArray), .int .i64 0] 45 ?_; intro gb477 hg w15 hbox hb; have n0_ := Aside0.mk (Kd.S_below (by (with_reducible repeat (first | apply Kd.S_alloc | apply Kd.S_drewN | apply Kd.S_drew)); exact HO_3.out) hb); have n1_ := rb HO_476003 hb; have n2_ := kb gb474 hb; have n3_ := kb gb475 hb; have n4_ := bst hb; have n5_ := Aside0.mk (hbox); have n6_ := geS hg; have n7_ := geS hg; have n8_ := neS gb474 hg; have n9_ := neT gb474 hg; have n10_ := neS gb475 hg; have n11_ := neT gb475 hg; clear HO_3; clear HO_476003; clear BK474; clear BK475; clear HB; have HO_3 := n0_; have HO_476003 := n1_; have BK474 := n2_; have BK475 := n3_; have HB := n4_; have BK477 := n5_; have GW477 := n6_; have GE477 := n7_; have NB474_477 := n8_; have NB477_474 := n9_; have NB475_477 := n10_; have NB477_475 := n11_; clear n0_ n1_ n2_ n3_ n4_ n5_ n6_ n7_ n8_ n9_ n10_ n11_; clear hb hbox hg; have := NB477_474.out; have := NB474_477.out; have := NB477_475.out; have := NB475_477.out; obtain ⟨_, _, _, _, _, _, _, _⟩ := cells4 BK477.out; have := NB475_474.out; have := NB474_475.out; obtain ⟨_, _, _, _, _, _, _, _⟩ := cells4 BK475.out) | ((with_reducible refine gate_builtin (b := .append) (xs := #[.tmp 30, .tmp 32]) rfl ?_); at_builtin; refine Kd.R_append k47 (w0 := w) w.heap.size rfl (.tmp 30) (.tmp 32) 63 47 (.agg #[(.int .i64 0), (.int .i64 0), (.string ⟨#[]⟩), (.int .i64 0)]) 40 rfl Tryd.underlying63 info47 rfl (by decide) (by omega) u476003 x476003_2 (⟨(rd_T45 ((rd_T43 l0 x11_1).f3) x25_2).f0, (rd_T45 ((rd_T43 l0 x11_1).f3) x25_2).f1, (rd_T45 ((rd_T43 l0 x11_1).f3) x25_2).f2, (rd_T45 ((rd_T43 l0 x11_1).f3) x25_2).f3⟩ : S47) [.int .i64 ((rd_T45 ((rd_T43 l0 x11_1).f3) x25_2).f0), .int .i64 ((rd_T45 ((rd_T43 l0 x11_1).f3) x25_2).f1), .string ((rd_T45 ((rd_T43 l0 x11_1).f3) x25_2).f2), .int .i64 ((rd_T45 ((rd_T43 l0 x11_1).f3) x25_2).f3)] (fun _ => True) (fun _ => False) rfl (by first | (go_simp; done) | (go_simp; rfl)) ?aP (fun _ hk => hk.elim) ?aF ?aO ?aB ?aS ?aL ?_; (case aP => exact k47_mkM _ _ _ (⟨(rd_T45 ((rd_T43 l0 x11_1).f3) x25_2).f0, (rd_T45 ((rd_T43 l0 x11_1).f3) x25_2).f1, (rd_T45 ((rd_T43 l0 x11_1).f3) x25_2).f2, (rd_T45 ((rd_T43 l0 x11_1).f3) x25_2).f3⟩ : S47)); (case aB => exact qB); (case aF => exact (fun _ _ => trivial)); (case aO => exact (by (with_reducible repeat (first | apply Kd.R_alloc | apply Kd.R_drewN | apply Kd.R_drew)); exact Kd.R_mono (Kd.R_far (p := ⟨gb477, 3, none⟩) (Kd.R_far (p := ⟨gb477, 2, none⟩) (Kd.R_far (p := ⟨gb477, 1, none⟩) (Kd.R_far (p := ⟨gb477, 0, none⟩) (Kd.R_types HO_476003.out BK477.out (by decide)) (fun _ hk => hk.2) (.int .i64 ((rd_T45 ((rd_T43 l0 x11_1).f3) x25_2).f0))) (fun _ hk => hk.2) (.int .i64 ((rd_T45 ((rd_T43 l0 x11_1).f3) x25_2).f1))) (fun _ hk => hk.2) (.string ((rd_T45 ((rd_T43 l0 x11_1).f3) x25_2).f2))) (fun _ hk => hk.2) (.int .i64 ((rd_T45 ((rd_T43 l0 x11_1).f3) x25_2).f3))) (fun _ hk => trivial))); (case aS => exact (below_size qB)); (case aL => have := LMc14.out; omega); intro v479 w21 ho hb hg hat; rw [← Ny478.out] at ho; have n0_ := Aside0.mk (Kd.S_after (ok := (fun k_ => k_ ≠ gb475)) (by (with_reducible repeat (first | apply Kd.S_alloc | apply Kd.S_drewN | apply Kd.S_drew)); exact Kd.S_mono (Kd.S_far (p := ⟨gb477, 3, none⟩) (Kd.S_far (p := ⟨gb477, 2, none⟩) (Kd.S_far (p := ⟨gb477, 1, none⟩) (Kd.S_far (p := ⟨gb477, 0, none⟩) (Kd.S_types HO_3.out BK477.out (by decide)) (fun _ hk => hk.2) (.int .i64 ((rd_T45 ((rd_T43 l0 x11_1).f3) x25_2).f0))) (fun _ hk => hk.2) (.int .i64 ((rd_T45 ((rd_T43 l0 x11_1).f3) x25_2).f1))) (fun _ hk => hk.2) (.string ((rd_T45 ((rd_T43 l0 x11_1).f3) x25_2).f2))) (fun _ hk => hk.2) (.int .i64 ((rd_T45 ((rd_T43 l0 x11_1).f3) x25_2).f3))) (fun _ hk => ⟨hk.1.2, hk.1.1⟩)) hg hat); have n1_ := Aside0.mk (blk_grown (g := gb474) (o := .cells #[.int .i64 ((rd_T43 l0 x11_1).f0), .int .i64 ((rd_T43 l0 x11_1).f1), .int .i64 ((rd_T43 l0 x11_1).f2), .slice (some ad476) ((rd_T43 l0 x11_1).f3).length c473_3] 43 (0, 0)) qK hg (Kd.R_ne HO_476003.out BK474.out (by decide))); have n2_ := Aside0.mk (blk_grown (g := gb475) (o := .cells #[.int .i64 ((rd_T43 l0 x11_1).f0), .int .i64 ((rd_T43 l0 x11_1).f1), .int .i64 ((rd_T43 l0 x11_1).f2), u476003] 65 (0, 0)) qK hg (Kd.R_ne HO_476003.out BK475.out (by decide))); have n3_ := Aside0.mk (blk_grown (g := gb477) (o := .cells #[.int .i64 ((rd_T45 ((rd_T43 l0 x11_1).f3) x25_2).f0), .int .i64 ((rd_T45 ((rd_T43 l0 x11_1).f3) x25_2).f1), .string ((rd_T45 ((rd_T43 l0 x11_1).f3) x25_2).f2), .int .i64 ((rd_T45 ((rd_T43 l0 x11_1).f3) x25_2).f3)] 45 (0, 0)) qP hg (Kd.R_ne HO_476003.out BK477.out (by decide))); have n4_ := Aside0.mk (hb); have n5_ := Aside0.mk (ho); clear HO_3; clear BK474; clear BK475; clear BK477; clear HB; clear HO_476003; have HO_3 := n0_; have BK474 := n1_; have BK475 := n2_; have BK477 := n3_; have HB := n4_; have HO480 := n5_; clear n0_ n1_ n2_ n3_ n4_ n5_; clear ho hb hg hat; obtain ⟨Ao22, co22, eo22⟩ := Kd.R_slice HO480.out; subst eo22; obtain ⟨_, _, _, _, _, _, _, _⟩ := cells4 BK475.out))
            go_roundg k2
            case measure => have := HK1.out; have := HK2.out; omega
            case rel => exact ⟨(wrap64 (x25_2 + 1)), (y478), (.slice Ao22 y478.length co22), qE, H', ⟨by have := HK1.out; have := HK2.out; omega⟩, ⟨by (with_reducible repeat (first | apply Kd.S_alloc | apply Kd.S_drewN | apply Kd.S_drew)); exact Kd.S_mono (Kd.S_far (p := ⟨gb475, 3, none⟩) (Kd.S_mono HO_3.out (fun k_ hk => (⟨hk, hk.1⟩ : _ ∧ k_ ≠ gb475))) (fun _ hk => hk.2) (.slice Ao22 y478.length co22)) (fun _ hk => ⟨hk.1.2, hk.1.1⟩)⟩, ⟨by (with_reducible repeat (first | apply Kd.R_alloc | apply Kd.R_drewN | apply Kd.R_drew)); exact Kd.R_mono (Kd.R_far (p := ⟨gb475, 3, none⟩) (Kd.R_types HO480.out BK475.out (by decide)) (fun _ hk => hk.2) (.slice Ao22 y478.length co22)) (fun _ hk => trivial)⟩, ⟨qK⟩, ⟨qP⟩, ⟨qB⟩⟩
           rw [if_neg c14] at H; exact absurd H (by simp)
          exact absurd H (by simp)
         rw [if_neg c12] at H; exact absurd H (by simp)
        by_cases c24 : x3_1.length < 2932031007402
        ·rw [if_pos c24] at H; have LMc24 := Aside0.mk c24; clear c24; obtain ⟨y481, hy481⟩ : ∃ y_ : List (S65), y_ = (x3_1 ++ [(⟨((rd_T43 l0 x11_1).f0), ((rd_T43 l0 x11_1).f1), ((rd_T43 l0 x11_1).f2), x476003_2⟩ : S65)]) := ⟨_, rfl⟩; replace H : (whirligiglaw22_refs.l0 k2 y481 l0 (l0.length : Int) (wrap64 (x11_1 + 1))) = some r := by first | (rw [hy481]; with_reducible exact H) | (have H2_ := (Option.bind_some _ _).symm.trans H; rw [hy481]; with_reducible exact H2_) | (have H2_ := (Option.bind_some _ _).symm.trans H; with_reducible exact H2_) | with_reducible exact H | (rw [hy481]; exact H) | exact H
         have Ny481 := Aside0.mk hy481; clear hy481; have H' := Aside0.mk H; clear H; have := NB475_474.out; have := NB474_475.out; obtain ⟨_, _, _, _, _, _, _, _⟩ := cells4 BK475.out; obtain ⟨Ao28, co28, eo28⟩ := Kd.R_slice HO_476003.out; subst eo28
         go_wp2_with (first | ((with_reducible refine gate_builtin (b := .append) (xs := #[.tmp 36, .tmp 38]) rfl ?_); at_builtin; refine Kd.S_append k65 (w0 := w) w.heap.size rfl (.tmp 36) (.tmp 38) 49 65 (.agg #[(.int .i64 0), (.int .i64 0), (.int .i64 0), (.slice none 0 0)]) 48 rfl Tryd.underlying49 info65 rfl (by decide) (by omega) u3 x3_1 (⟨((rd_T43 l0 x11_1).f0), ((rd_T43 l0 x11_1).f1), ((rd_T43 l0 x11_1).f2), x476003_2⟩ : S65) [.int .i64 ((rd_T43 l0 x11_1).f0), .int .i64 ((rd_T43 l0 x11_1).f1), .int .i64 ((rd_T43 l0 x11_1).f2), .slice Ao28 x476003_2.length co28] (fun k_ => k_ ≠ gb475) (fun k_ => some k_ = (.slice Ao28 x476003_2.length co28 : Value).ownBlock) rfl rfl ?aP (fun k_ hk_ => ((Kd.R_mono (ok' := fun k_ => ((fun k_ => k_ ≠ gb475)) k_ ∧ some k_ ≠ (u3 : Value).ownBlock) (Kd.R_types (Kd.R_apart' (HO_476003.out) (Kd.S_typed HO_3.out) (by decide)) BK475.out (by decide)) (fun k_ hk => ⟨hk.2, hk.1.2⟩))).1 k_ hk_.symm) ?aF ?aO ?aB ?aS ?aL ?_; (case aP => exact k65_mkM _ _ _ (⟨((rd_T43 l0 x11_1).f0), ((rd_T43 l0 x11_1).f1), ((rd_T43 l0 x11_1).f2), x476003_2⟩ : S65) (Kd.R_mono (Kd.R_tight rfl (Kd.R_mono (ok' := fun k_ => ((fun k_ => k_ ≠ gb475)) k_ ∧ some k_ ≠ (u3 : Value).ownBlock) (Kd.R_types (Kd.R_apart' (HO_476003.out) (Kd.S_typed HO_3.out) (by decide)) BK475.out (by decide)) (fun k_ hk => ⟨hk.2, hk.1.2⟩))) (fun _ h_ => h_))); (case aB => exact qB); (case aF => exact (fun k_ hk => Kd.freshB (g := gb475) (o := .cells #[.int .i64 ((rd_T43 l0 x11_1).f0), .int .i64 ((rd_T43 l0 x11_1).f1), .int .i64 ((rd_T43 l0 x11_1).f2), .slice Ao28 x476003_2.length co28] 65 (0, 0)) qK k_ hk)); (case aO => exact (by (with_reducible repeat (first | apply Kd.S_alloc | apply Kd.S_drewN | apply Kd.S_drew)); exact Kd.S_mono HO_3.out (fun k_ hk => ⟨hk.2, fun e_ => hk.1 e_⟩))); (case aS => exact (below_size qB)); (case aL => have := LMc24.out; omega); intro v482 w27 ho hb hg hat; rw [← Ny481.out] at ho; have n0_ := Aside0.mk (blk_grown (g := gb474) (o := .cells #[.int .i64 ((rd_T43 l0 x11_1).f0), .int .i64 ((rd_T43 l0 x11_1).f1), .int .i64 ((rd_T43 l0 x11_1).f2), .slice A473_3 ((rd_T43 l0 x11_1).f3).length c473_3] 43 (0, 0)) qK hg (Kd.S_ne HO_3.out BK474.out (by decide))); have n1_ := Aside0.mk (blk_grown (g := gb475) (o := .cells #[.int .i64 ((rd_T43 l0 x11_1).f0), .int .i64 ((rd_T43 l0 x11_1).f1), .int .i64 ((rd_T43 l0 x11_1).f2), .slice Ao28 x476003_2.length co28] 65 (0, 0)) qK hg (Kd.S_away HO_3.out (fun _ hk => hk.2))); have n2_ := Aside0.mk (hb); have n3_ := Aside0.mk (ho); clear BK474; clear BK475; clear HB; clear HO_3; clear HO_476003; have BK474 := n0_; have BK475 := n1_; have HB := n2_; have HO483 := n3_; clear n0_ n1_ n2_ n3_; clear ho hb hg hat))
         go_roundg k2
         case measure => have := HK1.out; have := HK2.out; omega
         case rel => exact ⟨(y481), (wrap64 (x11_1 + 1)), qE, H', ⟨by have := HK1.out; have := HK2.out; omega⟩, ⟨by (with_reducible repeat (first | apply Kd.S_alloc | apply Kd.S_drewN | apply Kd.S_drew)); exact Kd.S_mono HO483.out (fun _ hk => trivial)⟩, ⟨qB⟩⟩
        rw [if_neg c24] at H; exact absurd H (by simp)
     rw [if_neg c4] at H; exact absurd H (by simp)
    rw [if_neg c3] at H
    exact absurd H (by simp)
   rw [if_neg c2] at H
   have c2b0 := decide_eq_false c2
   clear c2
   obtain rfl := Option.some.inj H
   go_wp2
   go_ret
   exact ⟨_, qR, by (with_reducible repeat (first | apply Kd.S_alloc | apply Kd.S_drewN | apply Kd.S_drew)); exact HO_3.out, qB⟩
end Go.Proofs.YtbngfhlciebeeaaDoor.L
end
section
namespace Go.Proofs.YtbngfhlciebeeaaDoor.Sp
set_option linter.unusedVariables false
set_option linter.unusedSimpArgs false
open Go.RowKit Go.Proofs.YtbngfhlciebeeaaDoor.L Go.Proofs.YtbngfhlciebeeaaDoorW.PrintWords
theorem refs_l1 (x3 : List S65) (l : List S43) (i : Int) (xs : List S45) (hn : xs.length ≤ 1000000) (hx3 : x3.length ≤ 1000000) (a b c : Int) (hi : 0 ≤ i ∧ i ≤ 1000000) (r : List S65) (d : Nat) : ∀ (j : Nat) (out : List S47), j ≤ xs.length → xs.length - j = d → out.length = j →
    Ev (fun k => whirligiglaw22_refs.l0 k (x3 ++ [⟨a, b, c, out ++ (xs.drop j).map i47⟩]) l (l.length : Int) (i + 1)) r →
    Ev (fun k => whirligiglaw22_refs.l1 k x3 l (l.length : Int) i xs (xs.length : Int) (j : Int) a b c out) r := by
  induction d with
  | zero =>
    intro j out hj hd ho h
    refine Ev.succ ?_
    simp only [whirligiglaw22_refs.l1]
    rw [wrap_at (x := i + 1) (by omega) (by omega)]
    rw [List.drop_eq_nil_of_le (by omega), List.map_nil, List.append_nil] at h
    exact Ev.neg (by omega) (Ev.pos (by omega) h)
  | succ d ih =>
    intro j out hj hd ho h
    have hjl : j < xs.length := by omega
    refine Ev.succ ?_
    simp only [whirligiglaw22_refs.l1]
    rw [rd45 hjl, wrap_at (x := (j : Int) + 1) (by omega) (by omega)]
    refine Ev.pos (by omega) (Ev.pos (by omega) (Ev.pos (by omega) (Ev.pos (by omega) ?_)))
    refine ih (j + 1) (out ++ [i47 xs[j]]) (by omega) (by omega) (by simp [ho]) ?_
    rw [List.drop_eq_getElem_cons hjl, List.map_cons] at h
    rw [List.append_assoc]
    exact h
theorem refs_l0 (l : List S43) (hs : smallT l) (d : Nat) : ∀ (j : Nat), j ≤ l.length → l.length - j = d →
    Ev (fun k => whirligiglaw22_refs.l0 k ((l.take j).map b65) l (l.length : Int) (j : Int)) (l.map b65) := by
  have hsz := hs.1
  induction d with
  | zero =>
    intro j hj hd
    refine Ev.succ ?_
    simp only [whirligiglaw22_refs.l0]
    refine Ev.neg (by omega) (Ev.some ?_)
    rw [List.take_of_length_le (by omega)]
  | succ d ih =>
    intro j hj hd
    have hjl : j < l.length := by omega
    have hb := (hs.2 l[j] (List.getElem_mem hjl)).1
    have hnext := ih (j + 1) (by omega) (by omega)
    refine Ev.succ ?_
    simp only [whirligiglaw22_refs.l0]
    rw [rd43 hjl]
    refine Ev.pos (by omega) (Ev.pos (by omega) (Ev.pos (by omega) ?_))
    refine refs_l1 _ l (j : Int) l[j].f3 hb (by rw [List.length_map, List.length_take]; omega) _ _ _ ⟨by omega, by omega⟩ _ _ 0 [] (by omega) rfl rfl ?_
    rw [List.take_succ_eq_append_getElem hjl, List.map_append] at hnext
    exact hnext
theorem refs_ev (l : List S43) (hs : smallT l) : Ev (fun k => whirligiglaw22_refs.f k l) (l.map b65) := by
  unfold whirligiglaw22_refs.f
  exact refs_l0 l hs _ 0 (by omega) rfl
end Go.Proofs.YtbngfhlciebeeaaDoor.Sp
end
section
namespace Go.Proofs.YtbngfhlciebeeaaDoor.L
open Go.RowKit Go.Proofs.YtbngfhlciebeeaaDoorW.PrintWords Go.Proofs.YtbngfhlciebeeaaDoorW.PrintLast Go.Proofs.YtbngfhlciebeeaaDoorW.PrintMore
attribute [local go_sem] max2_int min2_int max_two min_two max_three min_three max_four min_four   -- for this text's walks alone
set_option linter.unusedVariables false
set_option linter.unusedSimpArgs false
def tree_New.f  : Option ((List (S43))) := some (([(⟨(-1), 0, 0, ([] : List (S45))⟩ : S43)] : List (S43)))
set_option maxHeartbeats 8000000 in
set_option maxRecDepth 100000 in
theorem tree_New.calls  (r : List (S43)) (w : World) (h : tree_New.f  = some r) :
  Calls Tryd.prog 39 #[] w fun e w' => ∃ v0_ : Value, e = .returned (v0_) ∧ Kd.S k43 43 w' w.heap.size (fun _ => True) v0_ r ∧ Below w.heap.size w w' := by
 have hu43 := Tryd.underlying43
 have HB := Aside0.mk (Below.refl w.heap.size w)
 have H : (some (([(⟨(-1), 0, 0, ([] : List (S45))⟩ : S43)] : List (S43)))) = some r := h
 clear h
 obtain ⟨y364, hy364⟩ : ∃ y_ : List (S43), y_ = (([(⟨(-1), 0, 0, ([] : List (S45))⟩ : S43)] : List (S43))) := ⟨_, rfl⟩
 replace H : (some y364) = some r := by first | (rw [hy364]; with_reducible exact H) | (have H2_ := (Option.bind_some _ _).symm.trans H; rw [hy364]; with_reducible exact H2_) | (have H2_ := (Option.bind_some _ _).symm.trans H; with_reducible exact H2_) | with_reducible exact H | (rw [hy364]; exact H) | exact H
 have Ny364 := Aside0.mk hy364
 clear hy364
 obtain rfl := Option.some.inj H
 go_enter Tryd.func39, Tryd.ntmps39
 go_wp2_with (first | ((with_reducible refine gate_dst (N := 2) rfl ?_); refine Kd.S_lit k43 _ 43 ?hg (N := 2) ?hd (xs := ([(⟨(-1), 0, 0, ([] : List (S45))⟩ : S43)] : List (S43))) (inner := [.int .i64 (-1), .int .i64 0, .int .i64 0, .slice none 0 0]) (ok := fun _ => True) (okp := fun _ => True) ?hr ?hp (fun _ hk => hk) trivial (Below.refl _ _) (Nat.le_refl _) (by simp) ?_; (case hd => rfl); (case hg => rfl); (case hr => first | (go_simp; done) | (go_simp; rfl)); (case hp => exact (Reps.c4 (show Kd.M k43 _ _ _ (⟨(-1), 0, 0, ([] : List (S45))⟩ : S43) [.int .i64 (-1), .int .i64 0, .int .i64 0, .slice none 0 0] from (k43_mkM _ _ _ (⟨(-1), 0, 0, ([] : List (S45))⟩ : S43) (Kd.R_nil _ _ _ _ _))) (Reps.none _ _))); intro v365 w1 ho2 hb hg_ hnew_; clear hg_ hnew_; (first | rw [← Ny364.out] at ho2 | (simp only [Int.reduceToNat] at ho2; rw [← Ny364.out] at ho2)); have HO366 := Aside0.mk (Kd.S_lower ho2 (below_size qB)); replace HB := bst hb; clear hb ho2))
 go_ret
 exact ⟨_, qR, by (with_reducible repeat (first | apply Kd.S_alloc | apply Kd.S_drewN | apply Kd.S_drew)); exact HO366.out, qB⟩
end Go.Proofs.YtbngfhlciebeeaaDoor.L
end
section
namespace Go.Proofs.YtbngfhlciebeeaaDoor.Opn
set_option linter.unusedVariables false
set_option linter.unusedSimpArgs false
open Go.RowKit Go.ChangeShapes Go.WideShapes Go.Proofs.YtbngfhlciebeeaaDoorW.PrintWords
section
variable {H : Type} {enc : TypeId × Value → H} {P : Program} {w : World} {base : Nat} {sp : Nat → Bool} {held : Bool} {α β : Type}
def Opens (enc : TypeId × Value → H) (P : Program) (w : World) (base : Nat) (sp : Nat → Bool) (held : Bool) (T : TypeId) (kd : Kd α) (ok : α → Prop) : Prop :=
  ∀ (n : Nat) (cs : List Value) (y : DataW H × List MemPlace), DataW.trod enc P w base sp held n T cs = some y → ∃ x, kd.K w x cs ∧ ok x
def OpensF (enc : TypeId × Value → H) (P : Program) (w : World) (base : Nat) (sp : Nat → Bool) (held : Bool) (fs : List Field) (off tot : Nat) (kd : Kd α) (ok : α → Prop) : Prop :=
  ∀ (n : Nat) (cs : List Value), cs.length = tot → (∀ f ∈ fs, ∃ y, DataW.trod enc P w base sp held n f.type ((cs.drop f.offset).take (P.cellsOf f.type)) = some y) → ∃ x, kd.K w x (cs.drop off) ∧ ok x
theorem opens_int {T : TypeId} {k : IntKind} (hu : P.underlying T = some (.int k)) : Opens enc P w base sp held T (Kd.int k) (fun n => (Lit.int k n).wf = true) := fun (n : Nat) (cs : List Value) y h => by
  obtain ⟨x, rfl, _, hw⟩ := DataW.trod_int hu h
  exact ⟨x, rfl, hw⟩
theorem opens_string {T : TypeId} (hu : P.underlying T = some .string) : Opens enc P w base sp held T Kd.string (fun s => s.size ≤ maxLen) := fun (n : Nat) (cs : List Value) y h => by
  obtain ⟨x, rfl, _, hw⟩ := DataW.trod_string hu h
  exact ⟨x, rfl, hw⟩
theorem opensF_one {f : Field} {off tot : Nat} {kd : Kd α} {ok : α → Prop} (h : Opens enc P w base sp held f.type kd ok) (ho : f.offset = off) (hs : off + P.cellsOf f.type = tot) : OpensF enc P w base sp held [f] off tot kd ok := fun n cs hl hf => by
  obtain ⟨y, hy⟩ := hf f (by simp)
  rw [ho, List.take_of_length_le (by rw [List.length_drop]; omega)] at hy
  exact h n _ y hy
theorem opensF_cons {f : Field} {fs : List Field} {off tot : Nat} {a : Kd α} {b : Kd β} {ok : α → Prop} {ok2 : β → Prop} (h : Opens enc P w base sp held f.type a ok) (ho : f.offset = off) (hr : OpensF enc P w base sp held fs (off + P.cellsOf f.type) tot b ok2) :
    OpensF enc P w base sp held (f :: fs) off tot (Kd.pair a b) (fun x => ok x.1 ∧ ok2 x.2) := fun n cs hl hf => by
  obtain ⟨y, hy⟩ := hf f (by simp)
  rw [ho] at hy
  obtain ⟨x, hx, hox⟩ := h n _ y hy
  obtain ⟨z, hz, hoz⟩ := hr n cs hl (fun g hg => hf g (List.mem_cons_of_mem _ hg))
  refine ⟨(x, z), ⟨_, _, ?_, hx, hz⟩, hox, hoz⟩
  rw [← List.drop_drop, List.take_append_drop]
theorem opens_struct {T : TypeId} {fs : Array Field} {tot : Nat} {kd : Kd α} {ok : α → Prop} (hu : P.underlying T = some (.struct fs)) (hc : P.cellsOf T = tot) (h : OpensF enc P w base sp held fs.toList 0 tot kd ok) : Opens enc P w base sp held T kd ok := fun n cs y hy => by
  obtain ⟨xs, m, _, _, hl, hxs, hf⟩ := DataW.trod_struct hu hy
  obtain ⟨x, hx, ho⟩ := h m cs (hl.trans hc) (fun f hm => by
    obtain ⟨i, hi⟩ := List.getElem?_of_mem hm
    have h1 := hf i f (by simpa using hi)
    have h2 : i < xs.length := by
      rw [hxs]
      have := (List.getElem?_eq_some_iff.1 hi).1
      simpa using this
    exact ⟨xs[i], h1.trans (List.getElem?_eq_getElem h2)⟩)
  exact ⟨x, by simpa using hx, ho⟩
theorem opens_iso {T : TypeId} {kd : Kd α} {ok : α → Prop} {f : β → α} (g : α → β) (hg : ∀ y, f (g y) = y) (h : Opens enc P w base sp held T kd ok) : Opens enc P w base sp held T (Kd.iso kd f) (fun x => ok (f x)) := fun n cs y hy => by
  obtain ⟨x, hx, ho⟩ := h n cs y hy
  exact ⟨g x, by show kd.K w (f (g x)) cs; rw [hg]; exact hx, by show ok (f (g x)); rw [hg]; exact ho⟩
theorem opens_imp {T : TypeId} {kd : Kd α} {ok ok2 : α → Prop} (hi : ∀ x, ok x → ok2 x) (h : Opens enc P w base sp held T kd ok) : Opens enc P w base sp held T kd ok2 := fun n cs y hy => by
  obtain ⟨x, hx, ho⟩ := h n cs y hy
  exact ⟨x, hx, hi x ho⟩
theorem choose_list {p : Nat → α → Prop} : ∀ (n : Nat), (∀ i, i < n → ∃ x, p i x) → ∃ l : List α, l.length = n ∧ ∀ i x, l[i]? = some x → p i x
  | 0, _ => ⟨[], rfl, by simp⟩
  | n + 1, h => by
    obtain ⟨l, hl, hp⟩ := choose_list n (fun i hi => h i (by omega))
    obtain ⟨x, hx⟩ := h n (by omega)
    refine ⟨l ++ [x], by simp [hl], fun i y hy => ?_⟩
    by_cases hi : i < n
    · rw [List.getElem?_append_left (by omega)] at hy
      exact hp i y hy
    · rw [List.getElem?_append_right (by omega)] at hy
      have h1 : i = n := by
        have := (List.getElem?_eq_some_iff.1 hy).1
        simp at this
        omega
      subst h1
      rw [hl, Nat.sub_self] at hy
      simp at hy
      subst hy
      exact hx
theorem cells?_get {a : Addr} {n : Nat} {cs : List Value} (h : w.cells? base a n = some cs) : cs.length = n ∧ ∀ i u, cs[i]? = some u → w.cell? (a.add i) = some u := by
  unfold World.cells? at h
  split at h
  · have hl := Lib.mapM_length h
    simp at hl
    refine ⟨hl, fun i u hu => ?_⟩
    have hi : i < cs.length := (List.getElem?_eq_some_iff.1 hu).1
    obtain ⟨b, hb, hf⟩ := Lib.mapM_at h i i (by rw [List.getElem?_range (by omega)])
    rw [hu] at hb
    obtain rfl := Option.some.inj hb
    exact hf
  · cases h
theorem opens_slice {T E : TypeId} {q : Nat} {kd : Kd α} {ok : α → Prop} (hu : P.underlying T = some (.slice E)) (hc : P.cellsOf E = kd.sz) (h : Opens enc P w base sp held E kd ok) :
    Opens enc P w base sp held T (Kd.slice q kd) (fun l => l.length ≤ maxLen ∧ ∀ x ∈ l, ok x) := fun n cs y hy => by
  rcases DataW.trod_slice hu hy with ⟨rfl, _⟩ | ⟨a, len, cap, elems, rest, m, _, rfl, _, _, hl, hm, hel, he, _, _⟩
  · exact ⟨[], ⟨none, 0, rfl, Nat.le_refl _, rfl, by simp, fun h => absurd h (by simp)⟩, by simp, by simp⟩
  · obtain ⟨l, hll, hp⟩ := choose_list (p := fun i x => ∃ c, c.length = kd.sz ∧ kd.K w x c ∧ ok x ∧ ∀ j u, c[j]? = some u → w.cell? (a.add (i * kd.sz + j)) = some u) len (fun i hi => by
      have h1 := he i hi
      rw [hc, List.getElem?_eq_getElem (by omega)] at h1
      obtain ⟨c, hc1, hc2⟩ := Option.bind_eq_some_iff.1 h1
      obtain ⟨x, hx, hox⟩ := h m c _ hc2
      obtain ⟨hlen, hget⟩ := cells?_get hc1
      exact ⟨x, c, hlen, hx, hox, fun j u hju => by
        have := hget j u hju
        rwa [Addr.add_add] at this⟩)
    refine ⟨l, ⟨some a, cap, by rw [hll], by omega, rfl, ?_, fun _ => ⟨a, rfl, fun j p hj => ?_⟩⟩, by omega, fun x hx => ?_⟩
    · simp only [maxLen] at hm; omega
    · obtain ⟨c, h1, h2, _, h4⟩ := hp j p hj
      exact ⟨c, h1, h2, h4⟩
    · obtain ⟨i, hi⟩ := List.getElem?_of_mem hx
      obtain ⟨c, _, _, h3, _⟩ := hp i x hi
      exact h3
theorem arg_slice {T : TypeId} {q : Nat} {kd : Kd α} {ok : List α → Prop} {v : Value} {d : DataW H} {ps : List MemPlace} {a : Option Addr} {len cap : Nat} (hv : v = .slice a len cap) (h : Opens enc P w base sp held T (Kd.slice q kd) ok) (ht : DataW.Trod enc P w base sp held T v d ps) :
    ∃ (A : Option Addr) (l : List α) (c : Nat), v = .slice A l.length c ∧ l.length ≤ c ∧ Kd.C kd w A l.length l ∧ ok l := by
  subst hv
  obtain ⟨n, hn⟩ := ht
  obtain ⟨l, ⟨A, c, hcs, hl, hr⟩, hok⟩ := h n _ _ hn
  simp [Value.cells] at hcs
  obtain ⟨rfl, h1, rfl⟩ := hcs
  exact ⟨a, l, cap, by rw [h1], hl, hr, hok⟩
end
end Go.Proofs.YtbngfhlciebeeaaDoor.Opn
end
