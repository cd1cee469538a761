/- Printed and hand-written steps towards the row (TreeMoves), those that it reaches. -/
import Derived.Test.YtbngfhlciebeeaaDoorTreeMovesG26
import Derived.Test.YtbngfhlciebeeaaDoorTreeMovesLxf9
namespace Go.Proofs.YtbngfhlciebeeaaDoor.Sp
set_option linter.unusedVariables false
set_option linter.unusedSimpArgs false
open Go.RowKit Go.Proofs.YtbngfhlciebeeaaDoor.L Go.Proofs.YtbngfhlciebeeaaDoorW.PrintWords
theorem zero_same : (!((inOut none).1 == 0) || (!((inOut none).2.1 == 0) || (!((inOut none).2.2.1.toList == ([] : List UInt8)) || (!((inOut none).2.2.2.1 == 0))))) = false := by
  simp [inOut, ByteArray.toList_eq]
theorem len65 (t : List S43) : ((t.map b65).length : Int) = (t.length : Int) := by rw [List.length_map]
theorem moves_j3 {t : List S43} (h : okT t) (a b : Int) (r : Int) (hr : r = if (0 ≤ a ∧ a < (t.length : Int)) ∧ (0 ≤ b ∧ b < (t.length : Int)) then ((cp (movesB (rd_T43 t a)) (movesB (rd_T43 t b)) : Nat) : Int) else 0) (c : Bool)
    (hc : c = true ↔ ¬ ((0 ≤ a ∧ a < (t.length : Int)) ∧ (0 ≤ b ∧ b < (t.length : Int)))) : Ev (fun k => whirligiglaw22_TreeMoves.j3 k a b t (t.map b65) r c) true := by
  refine Ev.succ ?_
  simp only [whirligiglaw22_TreeMoves.j3]
  rw [len65]
  cases c with
  | true =>
    rw [if_neg (hc.1 rfl)] at hr
    refine Ev.pos (by decide) (Ev.some ?_)
    rw [hr]; rfl
  | false =>
    have hin : (0 ≤ a ∧ a < (t.length : Int)) ∧ (0 ≤ b ∧ b < (t.length : Int)) := by
      by_cases hh : (0 ≤ a ∧ a < (t.length : Int)) ∧ (0 ≤ b ∧ b < (t.length : Int))
      · exact hh
      · exact absurd (hc.2 hh) (by decide)
    rw [if_pos hin] at hr
    obtain ⟨⟨a0, a1⟩, b0, b1⟩ := hin
    obtain ⟨m, rfl⟩ := Int.eq_ofNat_of_zero_le a0
    obtain ⟨n, rfl⟩ := Int.eq_ofNat_of_zero_le b0
    have hm : m < t.length := by omega
    have hn : n < t.length := by omega
    have hs := okT_small h
    rw [rd43 hm, rd43 hn] at hr
    rw [rd65b hm, rd65b hn]
    refine Ev.neg (by decide) (Ev.pos (by omega) (Ev.pos (by omega) (Ev.pos (by omega) (Ev.pos (by omega) ?_))))
    refine Ev.bind (common_ev t[m].f3 t[n].f3 (hs.2 _ (List.getElem_mem hm)).1 (hs.2 _ (List.getElem_mem hn)).1 _ _ _ _ _ _ (okT_good h (List.getElem_mem hm)) (okT_good h (List.getElem_mem hn))) ?_
    refine Ev.pos hr (Ev.bind (commonT_in h hn hm) (Ev.some ?_))
    rw [hr, cp_comm]
    exact beq_self_eq_true _
theorem moves_j2 {t : List S43} (h : okT t) (a b : Int) : Ev (fun k => whirligiglaw22_TreeMoves.j2 k a b t (t.map b65)) true := by
  have hcom : Ev (fun k => tree_Tree_Common.f k t a b) (if (0 ≤ a ∧ a < (t.length : Int)) ∧ (0 ≤ b ∧ b < (t.length : Int)) then ((cp (movesB (rd_T43 t a)) (movesB (rd_T43 t b)) : Nat) : Int) else 0) := by
    by_cases hh : (0 ≤ a ∧ a < (t.length : Int)) ∧ (0 ≤ b ∧ b < (t.length : Int))
    · rw [if_pos hh]
      obtain ⟨⟨a0, a1⟩, b0, b1⟩ := hh
      obtain ⟨m, rfl⟩ := Int.eq_ofNat_of_zero_le a0
      obtain ⟨n, rfl⟩ := Int.eq_ofNat_of_zero_le b0
      have hm : m < t.length := by omega
      have hn : n < t.length := by omega
      rw [rd43 hm, rd43 hn]
      exact commonT_in h hm hn
    · rw [if_neg hh]
      exact commonT_out (by
        by_cases h1 : 0 ≤ a ∧ a < (t.length : Int)
        · exact Or.inr fun h2 => hh ⟨h1, h2⟩
        · exact Or.inl h1)
  refine Ev.succ ?_
  simp only [whirligiglaw22_TreeMoves.j2]
  refine Ev.bind hcom ?_
  rw [len65]
  by_cases h1 : a < 0
  · exact Ev.pos h1 (moves_j3 h a b _ rfl true (by simp; omega))
  refine Ev.neg h1 ?_
  by_cases h2 : a ≥ (t.length : Int)
  · exact Ev.pos h2 (moves_j3 h a b _ rfl true (by simp; omega))
  refine Ev.neg h2 ?_
  by_cases h3 : b < 0
  · exact Ev.pos h3 (moves_j3 h a b _ rfl true (by simp; omega))
  refine Ev.neg h3 (moves_j3 h a b _ rfl _ ?_)
  rw [decide_eq_true_iff]
  omega
theorem moves_end {t : List S43} (h : okT t) (a b i : Int) (l : List S56) :
    Ev (fun k => whirligiglaw22_TreeMoves.l0 k a b i t l (l.length : Int) (l.length : Int)) true := by
  have hs := okT_small h
  refine Ev.succ ?_
  simp only [whirligiglaw22_TreeMoves.l0]
  refine Ev.neg (by omega) (Ev.bind (refs_ev t hs) (Ev.bind (refRight_ev t hs) ?_))
  rw [h.1]
  refine Ev.pos rfl ?_
  rw [len65]
  have hout : ∀ r : Int × Int × ByteArray × Int × Bool, r = inOut none → Ev (fun k => whirligiglaw22_TreeMoves.j1 k a b i t (t.map b65) r.2.2.2.2 true r.1 r.2.1 r.2.2.1 r.2.2.2.1) true := by
    rintro r rfl
    refine Ev.succ ?_
    simp only [whirligiglaw22_TreeMoves.j1]
    refine Ev.pos trivial (Ev.neg (by simp [inOut]) (Ev.neg ?_ (moves_j2 h a b)))
    rw [zero_same]; decide
  by_cases ha : 0 ≤ a ∧ a < (t.length : Int)
  · obtain ⟨m, rfl⟩ := Int.eq_ofNat_of_zero_le ha.1
    have hm : m < t.length := by omega
    have hg := okT_good h (List.getElem_mem hm)
    refine Ev.bind_some (input_in hm i) (Ev.neg (by omega) (Ev.neg (by omega) ?_))
    have hnone : ∀ hi : ¬ (0 ≤ i ∧ i < t[m].f2), inOut (findAt i t[m].f3) = inOut none := by
      intro hi
      cases hf : findAt i t[m].f3 with
      | none => rfl
      | some x => exact absurd (findAt_right hg hf).2 hi
    by_cases h1 : i < 0
    · exact Ev.pos h1 (hout _ (hnone (by omega)))
    refine Ev.neg h1 (Ev.pos ha.1 (Ev.pos ha.2 ?_))
    rw [rd65b hm]
    have e2 : (b65 t[m]).f2 = t[m].f2 := rfl
    rw [e2]
    by_cases h2 : i ≥ t[m].f2
    · rw [decide_eq_true h2]
      exact hout _ (hnone (by omega))
    · rw [decide_eq_false h2]
      obtain ⟨j, rfl⟩ := Int.eq_ofNat_of_zero_le (show 0 ≤ i by omega)
      obtain ⟨hl, he⟩ := moves_at hg (show (j : Int) < t[m].f2 by omega)
      refine Ev.succ ?_
      simp only [whirligiglaw22_TreeMoves.j1]
      rw [len65, rd65b hm]
      refine Ev.neg (by decide) (Ev.pos ha.1 (Ev.pos ha.2 (Ev.bind (moves_ev t[m].f3 (hs.2 _ (List.getElem_mem hm)).1 _ _ _ hg) ?_)))
      have hl2 : (j : Int) < ((gen 0 t[m].f2.toNat t[m].f3).length : Int) := by
        have : (movesB t[m]).length = (gen 0 t[m].f2.toNat t[m].f3).length := rfl
        omega
      have hrd : rd_T47 (gen 0 t[m].f2.toNat t[m].f3) (j : Int) = mvOf (findAt (j : Int) t[m].f3) := by
        have : rd_T47 (movesB t[m]) (j : Int) = (movesB t[m])[j] := rd47 hl
        rw [he] at this
        exact this
      refine Ev.pos (by omega) (Ev.pos hl2 ?_)
      rw [e2, hrd]
      cases hf : findAt (j : Int) t[m].f3 with
      | none =>
        refine Ev.neg (by simp [inOut, mvOf, z47]) (Ev.neg ?_ (moves_j2 h _ _))
        simp [inOut, mvOf, z47]
      | some x =>
        have hp := rightI_pos (findAt_right hg hf).1
        refine Ev.neg (by simp [inOut, mvOf, i47]; omega) (Ev.neg ?_ (moves_j2 h _ _))
        simp [inOut, mvOf, i47]
  · refine Ev.bind_some (input_out ha i) ?_
    by_cases h1 : a < 0
    · exact Ev.pos h1 (hout _ rfl)
    · exact Ev.neg h1 (Ev.pos (by omega) (hout _ rfl))
theorem movesOp_l (l : List S56) (hl : l.length ≤ 700) (hsm : smallO l = true) (a b i : Int) (d : Nat) : ∀ (j : Nat) (t : List S43), okT t → j ≤ l.length → l.length - j = d →
    Ev (fun k => whirligiglaw22_TreeMoves.l0 k a b i t l (l.length : Int) (j : Int)) true := by
  induction d with
  | zero =>
    intro j t ht hj hd
    obtain rfl : j = l.length := by omega
    exact moves_end ht a b i l
  | succ d ih =>
    intro j t ht hj hd
    have hjl : j < l.length := by omega
    have hname := smallO_mem hsm (List.getElem_mem hjl)
    have hnext := ih (j + 1) (opL t l[j]) (okT_op ht hname) (by omega) (by omega)
    unfold opL at hnext
    refine Ev.succ ?_
    simp only [whirligiglaw22_TreeMoves.l0]
    rw [rd56 hjl, wrap_at (by omega) (by omega)]
    refine Ev.pos (by omega) (Ev.pos (by omega) (Ev.pos (by omega) ?_))
    by_cases h1 : l[j].f0 = 1
    · rw [if_pos h1] at hnext
      exact Ev.pos h1 (Ev.bind_some (grow_ok ht _) hnext)
    · rw [if_neg h1] at hnext
      refine Ev.neg h1 ?_
      by_cases h2 : l[j].f0 = 2
      · rw [if_pos h2] at hnext
        exact Ev.pos h2 (Ev.bind (put_ok ht _ _ _ hname) hnext)
      · rw [if_neg h2] at hnext
        exact Ev.neg h2 hnext
theorem TreeMoves_ev (l : List S56) (o : l.length ≤ maxLen ∧ ∀ x ∈ l, Opn.I64 x.f0 ∧ Opn.I64 x.f1 ∧ Opn.I64 x.f2 ∧ (Opn.I64 x.f3.f0 ∧ Opn.I64 x.f3.f1 ∧ x.f3.f2.size ≤ maxLen ∧ Opn.I64 x.f3.f3)) (a : Int) (ha : Opn.I64 a) (b : Int) (hb : Opn.I64 b) (i : Int) (hi : Opn.I64 i) :
    Ev (fun k => whirligiglaw22_TreeMoves.f k l a b i) true := by
  have hl := o.1
  unfold maxLen at hl
  unfold whirligiglaw22_TreeMoves.f
  refine Ev.bind anchor22_ev (Ev.pos rfl (Ev.bind (smallOp_ev l hl) ?_))
  cases hs : smallO l with
  | false => exact Ev.neg (by simp) (Ev.some rfl)
  | true =>
    by_cases h7 : l.length ≤ 700
    · rw [decide_eq_true h7]
      refine Ev.pos rfl (Ev.bind_some (show tree_New.f = some [⟨-1, 0, 0, []⟩] from rfl) ?_)
      exact movesOp_l l h7 hs a b i _ 0 _ okT_new (by omega) rfl
    · rw [decide_eq_false h7]
      exact Ev.neg (by simp) (Ev.some rfl)
end Go.Proofs.YtbngfhlciebeeaaDoor.Sp
