/- Printed and hand-written steps towards the row (EvalShort), those that it reaches. -/
import Derived.Test.YtbngfhlciebeeaaDoorEvalShortG22
import Derived.Test.YtbngfhlciebeeaaDoorEvalShortG3
import Derived.Test.YtbngfhlciebeeaaDoorEvalShortG4
import Derived.Test.YtbngfhlciebeeaaDoorEvalShortG10
import Derived.Test.YtbngfhlciebeeaaDoorEvalShortG21
import Derived.Test.YtbngfhlciebeeaaDoorEvalShortG19
section
namespace Go.Proofs.YtbngfhlciebeeaaDoor.Sp
set_option linter.unusedVariables false
set_option linter.unusedSimpArgs false
open Go.RowKit Go.Proofs.YtbngfhlciebeeaaDoorW.PrintWords Go.Proofs.YtbngfhlciebeeaaDoorW.PrintMore Go.Proofs.YtbngfhlciebeeaaDoor.L
def trR (p : Bool) : R4 := if p = true then (2, 1, ⟨#[]⟩, 0) else (2, 0, ⟨#[]⟩, 0)
def joinR (s t : ByteArray) : R4 := if s.size + t.size > 48 then (0, 0, ⟨#[]⟩, 15) else (3, 0, s ++ t, 0)
def reckR (op : Int) (a b : S103) : R4 :=
  if op = 1 then trR (a.f1 == 0)
  else if op = 2 then ovR (-a.f1)
  else if op = 3 then ovR (a.f1 * b.f1)
  else if op = 4 then divR a.f1 b.f1
  else if op = 5 then remR a.f1 b.f1
  else if op = 6 then (if a.f0 = 3 then joinR a.f2 b.f2 else ovR (a.f1 + b.f1))
  else if op = 7 then ovR (a.f1 - b.f1)
  else if op = 8 then trR (ltV a b)
  else if op = 9 then trR (!(ltV b a))
  else if op = 10 then trR (ltV b a)
  else if op = 11 then trR (!(ltV a b))
  else if op = 12 then trR (a.f0 == b.f0 && (a.f1 == b.f1 && (a.f2.toList == b.f2.toList)))
  else if op = 13 then trR (!(a.f0 == b.f0) || (!(a.f1 == b.f1) || (!(a.f2.toList == b.f2.toList))))
  else if op = 14 then trR (a.f1 != 0 && b.f1 != 0)
  else trR (a.f1 != 0 || b.f1 != 0)
theorem vTruth (p : Bool) : ((val_Truth.f p).bind fun bt => (some (bt.1, bt.2.1, bt.2.2, (0 : Int)) : Option R4)) = some (trR p) := by cases p <;> rfl
theorem rTruth (p : Bool) : whirligigref01_truth.f p = some (trR p) := by cases p <;> rfl
theorem vJoin {s t : ByteArray} (hs : s.size ≤ 1000) (ht : t.size ≤ 1000) : val_join.f s t = some (joinR s t) := by
  unfold val_join.f joinR
  rw [wrap_at (by omega) (by omega)]
  by_cases h : s.size + t.size > 48
  · rw [if_pos h, if_pos (by omega)]
  · rw [if_neg h, if_neg (by omega), if_pos (by omega)]; rfl
theorem vOrder (op c : Int) : ((val_order.f op c).bind fun bt => (some (bt.1, bt.2.1, bt.2.2, (0 : Int)) : Option R4)) = some (trR (if op = 8 then decide (c < 0) else if op = 9 then decide (c ≤ 0) else if op = 10 then decide (c > 0) else decide (c ≥ 0))) := by
  unfold val_order.f
  by_cases h8 : op = 8
  · rw [if_pos h8, if_pos h8]; cases decide (c < 0) <;> rfl
  rw [if_neg h8, if_neg h8]
  by_cases h9 : op = 9
  · rw [if_pos h9, if_pos h9]; cases decide (c ≤ 0) <;> rfl
  rw [if_neg h9, if_neg h9]
  by_cases h10 : op = 10
  · rw [if_pos h10, if_pos h10]; cases decide (c > 0) <;> rfl
  rw [if_neg h10, if_neg h10]; cases decide (c ≥ 0) <;> rfl
theorem resK_kinds {op : Int} {a b : Int} (h : resK op a b ≠ 0) (ho : 3 ≤ op ∧ op ≤ 15) : a = b ∧ ((3 ≤ op ∧ op ≤ 5 ∨ op = 7) → a = 1) ∧ (op = 6 → a = 1 ∨ a = 3) ∧ (8 ≤ op → op ≤ 11 → a = 1 ∨ a = 3) ∧ (14 ≤ op → a = 2) := by
  unfold resK at h
  rw [if_neg (by omega), if_neg (by omega)] at h
  by_cases h6 : op = 6
  · rw [if_pos h6] at h
    by_cases g : a = b ∧ (a = 1 ∨ a = 3)
    · exact ⟨g.1, by omega, fun _ => g.2, by omega, by omega⟩
    · rw [if_neg g] at h; omega
  rw [if_neg h6] at h
  by_cases h7 : op ≤ 7
  · rw [if_pos h7] at h
    by_cases g : a = 1 ∧ b = 1
    · exact ⟨by omega, by omega, by omega, by omega, by omega⟩
    · rw [if_neg g] at h; omega
  rw [if_neg h7] at h
  by_cases h11 : op ≤ 11
  · rw [if_pos h11] at h
    by_cases g : a = b ∧ (a = 1 ∨ a = 3)
    · exact ⟨g.1, by omega, by omega, fun _ _ => g.2, by omega⟩
    · rw [if_neg g] at h; omega
  rw [if_neg h11] at h
  by_cases h13 : op ≤ 13
  · rw [if_pos h13] at h
    by_cases g : a = b ∧ 1 ≤ a ∧ a ≤ 3
    · exact ⟨g.1, by omega, by omega, by omega, by omega⟩
    · rw [if_neg g] at h; omega
  rw [if_neg h13] at h
  by_cases g : a = 2 ∧ b = 2
  · exact ⟨by omega, by omega, by omega, by omega, by omega⟩
  · rw [if_neg g] at h; omega
theorem val_bit {v : S103} (h : ValOk v) (h2 : v.f0 = 2) : v.f1 = 0 ∨ v.f1 = 1 := by
  rcases h with h | h | h
  · omega
  · exact h.2.1
  · omega
section
variable {a b : S103} (ha : ValOk a) (hb : ValOk b) (ia : Opn.I64 a.f1) (ib : Opn.I64 b.f1)
theorem vj1 (ha : ValOk a) (hb : ValOk b) (ia : Opn.I64 a.f1) (ib : Opn.I64 b.f1) {op : Int} (ho : 3 ≤ op ∧ op ≤ 15) (hr : resK op a.f0 b.f0 ≠ 0) : Ev (fun k => val_Reckon.j1 k op false a.f0 a.f1 a.f2 b.f0 b.f1 b.f2) (reckR op a b) := by
  obtain ⟨k1, k2, k3, k4, k5⟩ := resK_kinds hr ho
  have sa := val_size ha
  have sb := val_size hb
  have cmp := fun h => compare_lt ha hb ⟨k1, h⟩ rfl
  rcases op_cases (show 1 ≤ op ∧ op ≤ 15 by omega) with rfl | rfl | rfl | rfl | rfl | rfl | rfl | rfl | rfl | rfl | rfl | rfl | rfl | rfl | rfl
  · omega
  · omega
  all_goals
    refine Ev.succ ?_
    simp only [val_Reckon.j1, bind4, vTruth]
    repeat (first | refine Ev.pos (by decide) ?_ | refine Ev.neg (by decide) ?_)
    refine Ev.succ ?_
    simp only [val_Reckon.j2, bind4, vTruth]
    repeat (first | refine Ev.pos (by decide) ?_ | refine Ev.neg (by decide) ?_)
  · exact Ev.congr (Ev.const (fun _ => rfl)) (fun k => (vMul ia ib k).trans rfl)
  · exact ⟨1, fun k hk => by obtain ⟨j, rfl⟩ : ∃ j, k = j + 1 := ⟨k - 1, by omega⟩; exact vDiv ia ib j⟩
  · exact ⟨1, fun k hk => by obtain ⟨j, rfl⟩ : ∃ j, k = j + 1 := ⟨k - 1, by omega⟩; exact vRem j⟩
  · by_cases h3 : a.f0 = 3
    · exact Ev.pos h3 (Ev.const (fun k => (vJoin (by omega) (by omega)).trans (congrArg some (if_pos h3).symm)))
    · exact Ev.neg h3 (Ev.const (fun k => (vAdd ia ib k).trans (congrArg some (if_neg h3).symm)))
  · exact Ev.const (fun k => vSub ia ib k)
  · refine Ev.bind (compare_ev a b) (Ev.const (fun k => (vOrder 8 _).trans ?_))
    rw [if_pos rfl, (cmp (k4 (by decide) (by decide))).1]; rfl
  · refine Ev.bind (compare_ev a b) (Ev.const (fun k => (vOrder 9 _).trans ?_))
    rw [if_neg (by decide), if_pos rfl, (cmp (k4 (by decide) (by decide))).2.2.1]; rfl
  · refine Ev.bind (compare_ev a b) (Ev.const (fun k => (vOrder 10 _).trans ?_))
    rw [if_neg (by decide), if_neg (by decide), if_pos rfl, (cmp (k4 (by decide) (by decide))).2.1]; rfl
  · refine Ev.bind (compare_ev a b) (Ev.const (fun k => (vOrder 11 _).trans ?_))
    rw [if_neg (by decide), if_neg (by decide), if_neg (by decide), (cmp (k4 (by decide) (by decide))).2.2.2]; rfl
  · exact Ev.const (fun _ => rfl)
  · exact Ev.const (fun _ => rfl)
  · by_cases h0 : a.f1 = 0
    · exact Ev.pos h0 (Ev.some (by show _ = trR (a.f1 != 0 && b.f1 != 0); rw [h0]; rfl))
    · exact Ev.neg h0 (Ev.some (by show _ = trR (a.f1 != 0 && b.f1 != 0); rw [bne_iff_ne.2 h0]; rfl))
  · by_cases h0 : a.f1 = 0
    · exact Ev.pos h0 (Ev.some (by show _ = trR (a.f1 != 0 || b.f1 != 0); rw [h0]; rfl))
    · exact Ev.neg h0 (Ev.some (by show _ = trR (a.f1 != 0 || b.f1 != 0); rw [bne_iff_ne.2 h0]; rfl))
theorem vReckon2 (ha : ValOk a) (hb : ValOk b) (ia : Opn.I64 a.f1) (ib : Opn.I64 b.f1) {op : Int} (ho : 3 ≤ op ∧ op ≤ 15) : Ev (fun k => val_Reckon.f k op a.f0 a.f1 a.f2 [b]) (if resK op a.f0 b.f0 = 0 then (0, 0, ⟨#[]⟩, 20) else reckR op a b) := by
  have ho' : 1 ≤ op ∧ op ≤ 15 := by omega
  have hv := vres_is ho' a.f0 b.f0
  unfold val_Reckon.f
  refine Ev.pos (by simp) (Ev.pos (by simp) (Ev.succ ?_))
  simp only [val_Reckon.j0]
  rw [show rd_T103 [b] 0 = b from rfl]
  refine Ev.bind (vResult_ev ho' a.f0 b.f0) ?_
  cases hb2 : (vres op a.f0 b.f0).2 with
  | false =>
    rw [if_pos (hv.2 hb2)]
    refine Ev.neg (by decide) (Ev.succ ?_)
    simp only [val_Reckon.j1]
    exact Ev.pos trivial (Ev.some rfl)
  | true =>
    rw [if_neg (hv.1 hb2).2]
    refine Ev.pos rfl (Ev.pos (by simp) (Ev.neg (by simp) ?_))
    rw [decide_eq_false (show ¬ op ≤ 2 by omega)]
    exact vj1 ha hb ia ib ho (hv.1 hb2).2
theorem vReckon1 (ia : Opn.I64 a.f1) {op : Int} (ho : op = 1 ∨ op = 2) (z : S103) : Ev (fun k => val_Reckon.f k op a.f0 a.f1 a.f2 []) (if resK op a.f0 0 = 0 then (0, 0, ⟨#[]⟩, 20) else reckR op a z) := by
  have ho' : 1 ≤ op ∧ op ≤ 15 := by omega
  have hv := vres_is ho' a.f0 0
  unfold Opn.I64 at ia
  unfold val_Reckon.f
  refine Ev.neg (by simp) (Ev.succ ?_)
  simp only [val_Reckon.j0]
  refine Ev.bind (vResult_ev ho' a.f0 0) ?_
  cases hb2 : (vres op a.f0 0).2 with
  | false =>
    rw [if_pos (hv.2 hb2)]
    refine Ev.neg (by decide) (Ev.succ ?_)
    simp only [val_Reckon.j1]
    exact Ev.pos trivial (Ev.some rfl)
  | true =>
    rw [if_neg (hv.1 hb2).2]
    refine Ev.pos rfl (Ev.neg (by simp) (Ev.neg (by omega) (Ev.pos (by simp) (Ev.succ ?_))))
    simp only [val_Reckon.j1, bind4, vTruth]
    refine Ev.neg (by decide) ?_
    rcases ho with rfl | rfl
    · exact Ev.pos (by decide) (Ev.some rfl)
    · refine Ev.neg (by decide) (Ev.pos (by decide) (Ev.const (fun k => ?_)))
      show _ = some (ovR (-a.f1))
      by_cases h : a.f1 = -9223372036854775808
      · exact over_d (fun _ => by omega) (fun h' => by rw [beq_eq_false_iff_ne] at h'; exact absurd h h')
      · exact over_d (fun h' => absurd (beq_iff_eq.1 h') h) (fun _ => ⟨by omega, by omega, wrap_at (by omega) (by omega)⟩)
theorem rj0 (ha : ValOk a) (hb : ValOk b) (ia : Opn.I64 a.f1) (ib : Opn.I64 b.f1) {op : Int} (ho : 6 ≤ op ∧ op ≤ 15) (hr : resK op a.f0 b.f0 ≠ 0) : Ev (fun k => whirligigref01_Reckon.j0 k op op false a.f0 a.f1 a.f2 b.f0 b.f1 b.f2) (reckR op a b) := by
  obtain ⟨k1, k2, k3, k4, k5⟩ := resK_kinds hr (by omega)
  have sa := val_size ha
  have sb := val_size hb
  rcases op_cases (show 1 ≤ op ∧ op ≤ 15 by omega) with rfl | rfl | rfl | rfl | rfl | rfl | rfl | rfl | rfl | rfl | rfl | rfl | rfl | rfl | rfl
  · omega
  · omega
  · omega
  · omega
  · omega
  all_goals
    refine Ev.succ ?_
    simp only [whirligigref01_Reckon.j0, bind4, rTruth]
    repeat (first | refine Ev.pos (by decide) ?_ | refine Ev.neg (by decide) ?_)
  · by_cases h1 : a.f0 = 1
    · exact Ev.pos h1 (Ev.const (fun k => (rSum ia ib).trans (congrArg some (if_neg (show ¬ a.f0 = 3 by omega)).symm)))
    · have h3 : a.f0 = 3 := by have := k3 rfl; omega
      refine Ev.neg h1 ?_
      show Ev _ (if a.f0 = 3 then joinR a.f2 b.f2 else ovR (a.f1 + b.f1))
      rw [if_pos h3, wrap_at (by omega) (by omega)]
      unfold joinR
      by_cases g : a.f2.size + b.f2.size > 48
      · rw [if_pos g]; exact Ev.pos (by omega) (Ev.some rfl)
      · rw [if_neg g]; exact Ev.neg (by omega) (Ev.pos (by omega) (Ev.some rfl))
  · exact Ev.const (fun k => rLess ia ib)
  · exact Ev.bind (before_ev ha hb) (Ev.some rfl)
  · exact Ev.bind (before_ev hb ha) (Ev.some rfl)
  · exact Ev.bind (before_ev hb ha) (Ev.some rfl)
  · exact Ev.bind (before_ev ha hb) (Ev.some rfl)
  · exact Ev.const (fun _ => rfl)
  · exact Ev.const (fun _ => rfl)
  · have e2 := val_bit hb (by have := k5 (by decide); omega)
    rcases val_bit ha (k5 (by decide)) with e | e
    · exact Ev.neg (by omega) (Ev.some (by show _ = trR (a.f1 != 0 && b.f1 != 0); rw [e]; rfl))
    · refine Ev.pos e (Ev.some ?_)
      show _ = trR (a.f1 != 0 && b.f1 != 0)
      rcases e2 with e2 | e2 <;> rw [e, e2] <;> rfl
  · have e2 := val_bit hb (by have := k5 (by decide); omega)
    rcases val_bit ha (k5 (by decide)) with e | e
    · refine Ev.neg (by omega) (Ev.some ?_)
      show _ = trR (a.f1 != 0 || b.f1 != 0)
      rcases e2 with e2 | e2 <;> rw [e, e2] <;> rfl
    · exact Ev.pos e (Ev.some (by show _ = trR (a.f1 != 0 || b.f1 != 0); rw [e]; rfl))
theorem rReckon (ha : ValOk a) (hb : ValOk b) (ia : Opn.I64 a.f1) (ib : Opn.I64 b.f1) {op : Int} (ho : 3 ≤ op ∧ op ≤ 15) (hr : resK op a.f0 b.f0 ≠ 0) : Ev (fun k => whirligigref01_Reckon.f k op a.f0 a.f1 a.f2 b.f0 b.f1 b.f2) (reckR op a b) := by
  unfold whirligigref01_Reckon.f
  simp only [bind4]
  refine Ev.neg (by omega) (Ev.neg (by omega) ?_)
  by_cases h3 : op = 3
  · subst h3; exact Ev.pos rfl (times_ev ia ib)
  refine Ev.neg h3 ?_
  by_cases h4 : op = 4
  · subst h4
    refine Ev.pos rfl (Ev.succ ?_)
    simp only [whirligigref01_Reckon.j0, bind4]
    exact Ev.pos (by decide) ⟨1, fun k hk => by obtain ⟨j, rfl⟩ : ∃ j, k = j + 1 := ⟨k - 1, by omega⟩; exact rDiv ia ib j⟩
  refine Ev.neg h4 ?_
  by_cases h5 : op = 5
  · subst h5
    refine Ev.succ ?_
    simp only [whirligigref01_Reckon.j0, bind4]
    exact Ev.pos (by decide) ⟨1, fun k hk => by obtain ⟨j, rfl⟩ : ∃ j, k = j + 1 := ⟨k - 1, by omega⟩; exact rRem ia ib j⟩
  rw [beq_eq_false_iff_ne.2 h5]
  exact rj0 ha hb ia ib (by omega) hr
theorem rReckon1 (ia : Opn.I64 a.f1) {op : Int} (ho : op = 1 ∨ op = 2) (z : S103) : Ev (fun k => whirligigref01_Reckon.f k op a.f0 a.f1 a.f2 0 0 (⟨#[]⟩ : ByteArray)) (reckR op a z) := by
  unfold whirligigref01_Reckon.f
  simp only [bind4, rTruth]
  rcases ho with rfl | rfl
  · exact Ev.pos rfl (Ev.some rfl)
  · refine Ev.neg (by decide) (Ev.pos rfl (Ev.const (fun k => (rLess (a := 0) ⟨by decide, by decide⟩ ia).trans ?_)))
    show _ = some (ovR (-a.f1))
    rw [Int.zero_sub]
end
theorem NodeOk.cases_op {x : S156} {j : Nat} (h : NodeOk x j) : x.f0 = 0 ∨ x.f0 = 16 ∨ x.f0 = 17 ∨ ((x.f0 = 1 ∨ x.f0 = 2) ∧ x.f3 = (j : Int) - 1 ∧ x.f4 = 0 ∧ 1 ≤ j) ∨ ((3 ≤ x.f0 ∧ x.f0 ≤ 15) ∧ 0 ≤ x.f3 ∧ x.f3 < (j : Int) ∧ x.f4 = (j : Int) - 1) := by
  cases h with
  | lit v h h1 => exact Or.inl rfl
  | name op s o h => exact o.elim (fun h => Or.inr (Or.inl h)) (fun h => Or.inr (Or.inr (Or.inl h)))
  | one op o h1 => exact Or.inr (Or.inr (Or.inr (Or.inl ⟨o, rfl, rfl, h1⟩)))
  | two op c o h0 h1 => exact Or.inr (Or.inr (Or.inr (Or.inr ⟨o, h0, h1, rfl⟩)))
theorem rdI (l : List Int) (j : Nat) : rd l (j : Int) = l.getD j 0 := rfl
section
variable {l : List S156} {vs : List S118} {ss : List ByteArray}
theorem kind_step {ks : List Int} {j : Nat} {x : S156} (hl : l.length ≤ 1000) (hx : l[j]? = some x) (hk : ks.length = l.length) {kd e : Int} {R : Int × Int}
    (hn : Ev (fun k => kind_Scope_node.f k vs ss x.f0 x.f1.f0 x.f1.f1 x.f1.f2 x.f2 x.f3 x.f4 ks) (kd, e))
    (h0 : e = 0 → Ev (fun k => kind_Of.l0 k l (ks.set j kd) l (l.length : Int) ((j + 1 : Nat) : Int) vs ss) R) (h1 : e ≠ 0 → R = (0, e)) :
    Ev (fun k => kind_Of.l0 k l ks l (l.length : Int) (j : Int) vs ss) R := by
  have hj := (List.getElem?_eq_some_iff.1 hx).1
  have hx' : l[j] = x := (List.getElem?_eq_some_iff.1 hx).2
  refine Ev.succ ?_
  simp only [kind_Of.l0]
  rw [rd156 hj, hx', up1 (by omega)]
  refine Ev.pos (by omega) (Ev.pos (by omega) (Ev.pos (by omega) (Ev.bind hn ?_)))
  by_cases he : e = 0
  · exact Ev.pos he (Ev.pos (by omega) (h0 he))
  · exact Ev.neg he (Ev.some (h1 he).symm)
theorem node_op {ks : List Int} {x : S156} {i j : Nat} (ho : 1 ≤ x.f0 ∧ x.f0 ≤ 15) (h3 : x.f3 = (i : Int)) (h4 : x.f4 = (j : Int)) (hi : i < ks.length) (hj : j < ks.length) :
    Ev (fun k => kind_Scope_node.f k vs ss x.f0 x.f1.f0 x.f1.f1 x.f1.f2 x.f2 x.f3 x.f4 ks) (if resK x.f0 (ks.getD i 0) (ks.getD j 0) = 0 then (0, 20) else (resK x.f0 (ks.getD i 0) (ks.getD j 0), 0)) := by
  unfold kind_Scope_node.f
  rw [h3, h4, rdI, rdI]
  have hv := vres_is ho (ks.getD i 0) (ks.getD j 0)
  refine Ev.neg (by omega) (Ev.neg (by omega) (Ev.neg (by omega) (Ev.pos (by omega) (Ev.pos (by omega) (Ev.pos (by omega) (Ev.pos (by omega) (Ev.bind (vResult_ev ho _ _) ?_)))))))
  cases hb : (vres x.f0 (ks.getD i 0) (ks.getD j 0)).2 with
  | true =>
    obtain ⟨h1, h2⟩ := hv.1 hb
    rw [if_neg h2]
    exact Ev.pos rfl (Ev.some (by rw [h1]))
  | false =>
    rw [if_pos (hv.2 hb)]
    exact Ev.neg (by decide) (Ev.some rfl)
theorem kind_seg (hl : l.length ≤ 1000) (hvs : vs.length ≤ 1000) (hss : ss.length ≤ 1000) (hok : ∀ (j : Nat) (x : S156), l[j]? = some x → NodeOk x j) {a b : Nat} (s : Seg l a b) :
    ∃ kd err at_, Ev (fun k => whirligigref04_Of.f k (l.map ref159) (b : Int) (vs.map v151) ss) (kd, err, at_) ∧ (err ≠ 0 → kd = 0) ∧
      ∀ (ks : List Int) (R : Int × Int), ks.length = l.length →
        (err = 0 → ∀ ks' : List Int, ks'.length = l.length → (∀ j, j < a → ks'.getD j 0 = ks.getD j 0) → ks'.getD b 0 = kd → Ev (fun k => kind_Of.l0 k l ks' l (l.length : Int) ((b + 1 : Nat) : Int) vs ss) R) →
        (err ≠ 0 → R = (0, err)) → Ev (fun k => kind_Of.l0 k l ks l (l.length : Int) (a : Int) vs ss) R := by
  have getD_set : ∀ (ks : List Int) (j i : Nat) (v : Int), j < ks.length → (ks.set j v).getD i 0 = if i = j then v else ks.getD i 0 := fun ks j i v h => by
    simp only [List.getD_eq_getElem?_getD, List.getElem?_set]
    by_cases e : j = i
    · subst e; simp [h]
    · rw [if_neg e, if_neg (Ne.symm e)]
  have hm : (l.map ref159).length = l.length := List.length_map ..
  induction s with
  | @leaf b x h o =>
    have hb := (List.getElem?_eq_some_iff.1 h).1
    have hx : l[b] = x := (List.getElem?_eq_some_iff.1 h).2
    -- what the node comes to on either side
    have key : ∃ kd err at_, Ev (fun k => whirligigref04_Of.f k (l.map ref159) (b : Int) (vs.map v151) ss) (kd, err, at_) ∧ (err ≠ 0 → kd = 0) ∧ ∀ ks : List Int, Ev (fun k => kind_Scope_node.f k vs ss x.f0 x.f1.f0 x.f1.f1 x.f1.f2 x.f2 x.f3 x.f4 ks) (kd, err) := by
      rcases o with o | o | o
      · refine ⟨x.f1.f0, 0, 0, Ev.succ ?_, fun h => absurd rfl h, fun ks => ?_⟩
        · simp only [whirligigref04_Of.f]
          rw [rd159 hb, hx]
          exact Ev.pos (by omega) (Ev.pos (by omega) (Ev.pos o (Ev.some rfl)))
        · unfold kind_Scope_node.f
          exact Ev.pos o (Ev.some rfl)
      · have hr := rfind_l0 (b : Int) vs hvs x vs.length 0 (by omega) (by omega)
        rw [List.drop_zero] at hr
        have hf := find_eq vs ss x.f2
        have ho : ¬ x.f0 = 0 := by omega
        cases hlk : lookV x.f2 vs with
        | none =>
          rw [hlk] at hr hf
          refine ⟨0, 24, (b : Int), Ev.succ ?_, fun _ => rfl, fun ks => ?_⟩
          · simp only [whirligigref04_Of.f]
            rw [rd159 hb, hx]
            exact Ev.pos (by omega) (Ev.pos (by omega) (Ev.neg ho (Ev.pos o hr)))
          · unfold kind_Scope_node.f
            exact Ev.neg ho (Ev.pos o (Ev.bind_some hf (Ev.neg (by decide) (Ev.some rfl))))
        | some kd =>
          rw [hlk] at hr hf
          refine ⟨kd, 0, 0, Ev.succ ?_, fun h => absurd rfl h, fun ks => ?_⟩
          · simp only [whirligigref04_Of.f]
            rw [rd159 hb, hx]
            exact Ev.pos (by omega) (Ev.pos (by omega) (Ev.neg ho (Ev.pos o hr)))
          · unfold kind_Scope_node.f
            exact Ev.neg ho (Ev.pos o (Ev.bind_some hf (Ev.pos rfl (Ev.some rfl))))
      · have hr := rfind_l1 (b : Int) ss (by omega) x ss.length 0 (by omega) (by omega)
        rw [List.drop_zero] at hr
        have hf := contains_ev ss (by omega) x.f2
        have ho : ¬ x.f0 = 0 := by omega
        have ho' : ¬ x.f0 = 16 := by omega
        cases hlk : hasS x.f2 ss with
        | false =>
          rw [hlk] at hr hf
          refine ⟨0, 24, (b : Int), Ev.succ ?_, fun _ => rfl, fun ks => ?_⟩
          · simp only [whirligigref04_Of.f]
            rw [rd159 hb, hx]
            exact Ev.pos (by omega) (Ev.pos (by omega) (Ev.neg ho (Ev.neg ho' (Ev.pos o hr))))
          · unfold kind_Scope_node.f
            exact Ev.neg ho (Ev.neg ho' (Ev.pos o (Ev.bind hf (Ev.neg (by decide) (Ev.some rfl)))))
        | true =>
          rw [hlk] at hr hf
          refine ⟨2, 0, 0, Ev.succ ?_, fun h => absurd rfl h, fun ks => ?_⟩
          · simp only [whirligigref04_Of.f]
            rw [rd159 hb, hx]
            exact Ev.pos (by omega) (Ev.pos (by omega) (Ev.neg ho (Ev.neg ho' (Ev.pos o hr))))
          · unfold kind_Scope_node.f
            exact Ev.neg ho (Ev.neg ho' (Ev.pos o (Ev.bind hf (Ev.pos rfl (Ev.some rfl)))))
    obtain ⟨kd, err, at_, h1, h2, h3⟩ := key
    refine ⟨kd, err, at_, h1, h2, fun ks R hk h4 h5 => kind_step hl h hk (h3 ks) (fun e => h4 e _ (by simp [hk]) (fun j hj => ?_) ?_) h5⟩
    · rw [getD_set _ _ _ _ (by omega), if_neg (by omega)]
    · rw [getD_set _ _ _ _ (by omega), if_pos rfl]
  | @one a b x h o h3 s ih =>
    have hb := (List.getElem?_eq_some_iff.1 h).1
    have hx : l[b + 1] = x := (List.getElem?_eq_some_iff.1 h).2
    have hle := s.le
    obtain ⟨ka, ea, aa, r1, r2, r3⟩ := ih
    have h4 : x.f4 = ((0 : Nat) : Int) := by
      rcases (hok _ _ h).cases_op with h | h | h | h | h <;> omega
    have ho : 1 ≤ x.f0 ∧ x.f0 ≤ 15 := by omega
    -- the document
    have hres : resK x.f0 ka 0 = resK x.f0 ka 0 := rfl
    have hdoc : Ev (fun k => whirligigref04_Of.f k (l.map ref159) ((b + 1 : Nat) : Int) (vs.map v151) ss) (if ea = 0 then (if resK x.f0 ka 0 = 0 then (0, 20, ((b + 1 : Nat) : Int)) else (resK x.f0 ka 0, 0, 0)) else (0, ea, aa)) := by
      refine Ev.succ ?_
      simp only [whirligigref04_Of.f]
      rw [rd159 hb, hx]
      refine Ev.pos (by omega) (Ev.pos (by omega) (Ev.neg (show ¬ x.f0 = 0 by omega) (Ev.neg (show ¬ x.f0 = 16 by omega) (Ev.neg (show ¬ x.f0 = 17 by omega) ?_))))
      refine Ev.bind (a := (ka, ea, aa)) (by rw [show (ref159 x).f3 = (b : Int) from h3]; exact r1) ?_
      have hd : decide ((ref159 x).f0 > 2) = false := decide_eq_false (show ¬ x.f0 > 2 by omega)
      by_cases e : ea = 0
      · rw [if_pos e]
        refine Ev.pos e (Ev.succ ?_)
        simp only [whirligigref04_Of.j2]
        rw [hd]
        refine Ev.neg (by decide) (Ev.succ ?_)
        simp only [whirligigref04_Of.j3]
        refine Ev.pos e (Ev.bind (rResult_ev ho ka 0) ?_)
        by_cases g : resK x.f0 ka 0 = 0
        · exact Ev.pos g (Ev.some (if_pos g).symm)
        · exact Ev.neg g (Ev.some (if_neg g).symm)
      · rw [if_neg e]
        refine Ev.neg e (Ev.succ ?_)
        simp only [whirligigref04_Of.j2]
        refine Ev.neg (by decide) (Ev.succ ?_)
        simp only [whirligigref04_Of.j3]
        exact Ev.neg e (Ev.some rfl)
    by_cases e : ea = 0
    · rw [if_pos e] at hdoc
      -- the kind does not hang on a second part
      have hany : ∀ y, resK x.f0 ka y = resK x.f0 ka 0 := fun y => by
        unfold resK
        rcases o with o | o
        · simp only [if_pos o]
        · have n1 : ¬ x.f0 = 1 := by omega
          simp only [if_neg n1, if_pos o]
      have cont : ∀ (kd err at_ : Int), (if resK x.f0 ka 0 = 0 then ((0 : Int), (20 : Int)) else (resK x.f0 ka 0, 0)) = (kd, err) → ∀ (ks : List Int) (R : Int × Int), ks.length = l.length →
        (err = 0 → ∀ ks' : List Int, ks'.length = l.length → (∀ j, j < a → ks'.getD j 0 = ks.getD j 0) → ks'.getD (b + 1) 0 = kd → Ev (fun k => kind_Of.l0 k l ks' l (l.length : Int) ((b + 1 + 1 : Nat) : Int) vs ss) R) →
        (err ≠ 0 → R = (0, err)) → Ev (fun k => kind_Of.l0 k l ks l (l.length : Int) (a : Int) vs ss) R := fun kd err at_ hke ks R hk c1 c2 => by
          refine r3 ks R hk (fun _ ks1 k1 k2 k3 => ?_) (fun h => absurd e h)
          have hn := node_op (vs := vs) (ss := ss) (ks := ks1) ho h3 h4 (by omega) (by omega)
          rw [k3, hany, hke] at hn
          refine kind_step hl h k1 hn (fun e0 => c1 e0 _ (by simp [k1]) (fun j hj => ?_) ?_) c2
          · rw [getD_set _ _ _ _ (by omega), if_neg (by omega), k2 j hj]
          · rw [getD_set _ _ _ _ (by omega), if_pos rfl]
      by_cases g : resK x.f0 ka 0 = 0
      · rw [if_pos g] at hdoc
        exact ⟨0, 20, _, hdoc, fun _ => rfl, cont 0 20 0 (if_pos g)⟩
      · rw [if_neg g] at hdoc
        exact ⟨_, 0, _, hdoc, fun h => absurd rfl h, cont _ 0 0 (if_neg g)⟩
    · rw [if_neg e] at hdoc
      exact ⟨0, ea, aa, hdoc, fun _ => rfl, fun ks R hk c1 c2 => r3 ks R hk (fun h => absurd h e) c2⟩
  | @two a b c x h o h3 h4 s t i1 i2 =>
    have hb := (List.getElem?_eq_some_iff.1 h).1
    have hx : l[b + 1] = x := (List.getElem?_eq_some_iff.1 h).2
    have hle := s.le
    have hle2 := t.le
    obtain ⟨ka, ea, aa, r1, r2, r3⟩ := i1
    obtain ⟨kb, eb, ab, q1, q2, q3⟩ := i2
    have ho : 1 ≤ x.f0 ∧ x.f0 ≤ 15 := by omega
    have hdoc : Ev (fun k => whirligigref04_Of.f k (l.map ref159) ((b + 1 : Nat) : Int) (vs.map v151) ss) (if ea = 0 then (if eb = 0 then (if resK x.f0 ka kb = 0 then (0, 20, ((b + 1 : Nat) : Int)) else (resK x.f0 ka kb, 0, 0)) else (0, eb, ab)) else (0, ea, aa)) := by
      refine Ev.succ ?_
      simp only [whirligigref04_Of.f]
      rw [rd159 hb, hx]
      refine Ev.pos (by omega) (Ev.pos (by omega) (Ev.neg (show ¬ x.f0 = 0 by omega) (Ev.neg (show ¬ x.f0 = 16 by omega) (Ev.neg (show ¬ x.f0 = 17 by omega) ?_))))
      refine Ev.bind (a := (ka, ea, aa)) (by rw [show (ref159 x).f3 = (c : Int) from h3]; exact r1) ?_
      have hd : decide ((ref159 x).f0 > 2) = true := decide_eq_true (show x.f0 > 2 by omega)
      by_cases e : ea = 0
      · rw [if_pos e]
        refine Ev.pos e (Ev.succ ?_)
        simp only [whirligigref04_Of.j2]
        rw [hd]
        refine Ev.pos rfl (Ev.bind (a := (kb, eb, ab)) (by rw [show (ref159 x).f4 = (b : Int) from h4]; exact q1) (Ev.succ ?_))
        simp only [whirligigref04_Of.j3]
        by_cases e2 : eb = 0
        · rw [if_pos e2]
          refine Ev.pos e2 (Ev.bind (rResult_ev ho ka kb) ?_)
          by_cases g : resK x.f0 ka kb = 0
          · exact Ev.pos g (Ev.some (if_pos g).symm)
          · exact Ev.neg g (Ev.some (if_neg g).symm)
        · rw [if_neg e2]
          exact Ev.neg e2 (Ev.some rfl)
      · rw [if_neg e]
        refine Ev.neg e (Ev.succ ?_)
        simp only [whirligigref04_Of.j2]
        refine Ev.neg (by decide) (Ev.succ ?_)
        simp only [whirligigref04_Of.j3]
        exact Ev.neg e (Ev.some rfl)
    by_cases e : ea = 0
    · rw [if_pos e] at hdoc
      by_cases e2 : eb = 0
      · rw [if_pos e2] at hdoc
        have cont : ∀ (kd err at_ : Int), (if resK x.f0 ka kb = 0 then ((0 : Int), (20 : Int)) else (resK x.f0 ka kb, 0)) = (kd, err) → ∀ (ks : List Int) (R : Int × Int), ks.length = l.length →
          (err = 0 → ∀ ks' : List Int, ks'.length = l.length → (∀ j, j < a → ks'.getD j 0 = ks.getD j 0) → ks'.getD (b + 1) 0 = kd → Ev (fun k => kind_Of.l0 k l ks' l (l.length : Int) ((b + 1 + 1 : Nat) : Int) vs ss) R) →
          (err ≠ 0 → R = (0, err)) → Ev (fun k => kind_Of.l0 k l ks l (l.length : Int) (a : Int) vs ss) R := fun kd err at_ hke ks R hk c1 c2 => by
            refine r3 ks R hk (fun _ ks1 k1 k2 k3 => q3 ks1 R k1 (fun _ ks2 m1 m2 m3 => ?_) (fun h => absurd e2 h)) (fun h => absurd e h)
            have hn := node_op (vs := vs) (ss := ss) (ks := ks2) ho h3 h4 (by omega) (by omega)
            rw [m3, m2 c (by omega), k3, hke] at hn
            refine kind_step hl h m1 hn (fun e0 => c1 e0 _ (by simp [m1]) (fun j hj => ?_) ?_) c2
            · rw [getD_set _ _ _ _ (by omega), if_neg (by omega), m2 j (by omega), k2 j hj]
            · rw [getD_set _ _ _ _ (by omega), if_pos rfl]
        by_cases g : resK x.f0 ka kb = 0
        · rw [if_pos g] at hdoc
          exact ⟨0, 20, _, hdoc, fun _ => rfl, cont 0 20 0 (if_pos g)⟩
        · rw [if_neg g] at hdoc
          exact ⟨_, 0, _, hdoc, fun h => absurd rfl h, cont _ 0 0 (if_neg g)⟩
      · rw [if_neg e2] at hdoc
        exact ⟨0, eb, ab, hdoc, fun _ => rfl, fun ks R hk c1 c2 => r3 ks R hk (fun _ ks1 k1 k2 k3 => q3 ks1 R k1 (fun h => absurd h e2) c2) (fun h => absurd e h)⟩
    · rw [if_neg e] at hdoc
      exact ⟨0, ea, aa, hdoc, fun _ => rfl, fun ks R hk c1 c2 => r3 ks R hk (fun h => absurd h e) c2⟩
end
end Go.Proofs.YtbngfhlciebeeaaDoor.Sp
end
section
namespace Go.Proofs.YtbngfhlciebeeaaDoor.L
open Go.RowKit Go.Proofs.YtbngfhlciebeeaaDoorW.PrintWords Go.Proofs.YtbngfhlciebeeaaDoorW.PrintLast Go.Proofs.YtbngfhlciebeeaaDoorW.PrintMore
attribute [local go_sem] max2_int min2_int max_two min_two max_three min_three max_four min_four   -- for this text's walks alone
set_option linter.unusedVariables false
set_option linter.unusedSimpArgs false
attribute [local go_sem high] eqA106
mutual
def whirligigref05_Eval.l0 : Nat → List (S166) → Int → Int → Int → Int → ByteArray → ByteArray → Int → Int → Option (Int × Int × ByteArray × Int)
 | 0, _, _, _, _, _, _, _, _, _ => none
 | k + 1, x2, x11, x1273000, x1273001, x1273002, x1273003, x1273004, x1273005, x1273006 => if x11 < (x2.length : Int) then (if 0 ≤ x11 then (if ((rd_T166 x2 x11).f0).toList = x1273004.toList then (some ((rd_T166 x2 x11).f1.f0, (rd_T166 x2 x11).f1.f1, (rd_T166 x2 x11).f1.f2, 0)) else (whirligigref05_Eval.l0 k x2 (wrap64 (x11 + 1)) x1273000 x1273001 x1273002 x1273003 x1273004 x1273005 x1273006)) else (none)) else (some (0, 0, (⟨#[]⟩ : ByteArray), 24))
def whirligigref05_Eval.l1 : Nat → List ByteArray → Int → Int → Int → Int → ByteArray → ByteArray → Int → Int → Option (Int × Int × ByteArray × Int)
 | 0, _, _, _, _, _, _, _, _, _ => none
 | k + 1, x3, x12, x1273000, x1273001, x1273002, x1273003, x1273004, x1273005, x1273006 => if x12 < (x3.length : Int) then (if 0 ≤ x12 then (if (rdOf ByteArray.empty x3 x12).toList = x1273004.toList then (some (2, 1, (⟨#[]⟩ : ByteArray), 0)) else (whirligigref05_Eval.l1 k x3 (wrap64 (x12 + 1)) x1273000 x1273001 x1273002 x1273003 x1273004 x1273005 x1273006)) else (none)) else (some (2, 0, (⟨#[]⟩ : ByteArray), 0))
def whirligigref05_Eval.j3 : Nat → Int → Int → Int → ByteArray → ByteArray → Int → Int → Int → Int → ByteArray → Int → Int → ByteArray → Option (Int × Int × ByteArray × Int)
 | 0, _, _, _, _, _, _, _, _, _, _, _, _, _ => none
 | k + 1, x1273000, x1273001, x1273002, x1273003, x1273004, x1273005, x1273006, x1281000, x1281001, x1281002, x1282000, x1282001, x1282002 => (whirligigref01_Result.f k x1273000 x1281000 x1282000).bind fun t1286 => (if t1286 = 0 then (some (0, 0, (⟨#[]⟩ : ByteArray), 20)) else ((whirligigref01_Reckon.f k x1273000 x1281000 x1281001 x1281002 x1282000 x1282001 x1282002).bind fun bt1287 => (some (bt1287.1, bt1287.2.1, bt1287.2.2.1, bt1287.2.2.2))))
def whirligigref05_Eval.j2 : Nat → List (S159) → List (S166) → List ByteArray → Bool → Int → Int → Int → ByteArray → ByteArray → Int → Int → Int → Int → ByteArray → Option (Int × Int × ByteArray × Int)
 | 0, _, _, _, _, _, _, _, _, _, _, _, _, _, _ => none
 | k + 1, x0, x2, x3, x100, x1273000, x1273001, x1273002, x1273003, x1273004, x1273005, x1273006, x1281000, x1281001, x1281002 => if x100 = true then (some (x1281000, x1281001, x1281002, 0)) else ((whirligigref05_Eval.f k x0 x1273006 x2 x3).bind fun bt1282 => (if bt1282.2.2.2 = 0 then (whirligigref05_Eval.j3 k x1273000 x1273001 x1273002 x1273003 x1273004 x1273005 x1273006 x1281000 x1281001 x1281002 bt1282.1 bt1282.2.1 bt1282.2.2.1) else (some (0, 0, (⟨#[]⟩ : ByteArray), bt1282.2.2.2))))
def whirligigref05_Eval.f : Nat → List (S159) → Int → List (S166) → List ByteArray → Option (Int × Int × ByteArray × Int)
 | 0, _, _, _, _ => none
 | k + 1, l0, a1, l2, l3 => if 0 ≤ a1 then (if a1 < (l0.length : Int) then (if ((rd_T159 l0 a1).f0) = 0 then (some ((rd_T159 l0 a1).f1.f0, (rd_T159 l0 a1).f1.f1, (rd_T159 l0 a1).f1.f2, 0)) else (if ((rd_T159 l0 a1).f0) = 16 then (whirligigref05_Eval.l0 k l2 0 ((rd_T159 l0 a1).f0) ((rd_T159 l0 a1).f1.f0) ((rd_T159 l0 a1).f1.f1) ((rd_T159 l0 a1).f1.f2) ((rd_T159 l0 a1).f2) ((rd_T159 l0 a1).f3) ((rd_T159 l0 a1).f4)) else (if ((rd_T159 l0 a1).f0) = 17 then (whirligigref05_Eval.l1 k l3 0 ((rd_T159 l0 a1).f0) ((rd_T159 l0 a1).f1.f0) ((rd_T159 l0 a1).f1.f1) ((rd_T159 l0 a1).f1.f2) ((rd_T159 l0 a1).f2) ((rd_T159 l0 a1).f3) ((rd_T159 l0 a1).f4)) else ((whirligigref05_Eval.f k l0 ((rd_T159 l0 a1).f3) l2 l3).bind fun bt1276 => (if bt1276.2.2.2 = 0 then (if ((rd_T159 l0 a1).f0) > 2 then (if ((rd_T159 l0 a1).f0) = 14 then (if (bt1276.1 == 2 && (bt1276.2.1 == 0 && (bt1276.2.2.1.toList == ([] : List UInt8)))) = true then (whirligigref05_Eval.j2 k l0 l2 l3 true ((rd_T159 l0 a1).f0) ((rd_T159 l0 a1).f1.f0) ((rd_T159 l0 a1).f1.f1) ((rd_T159 l0 a1).f1.f2) ((rd_T159 l0 a1).f2) ((rd_T159 l0 a1).f3) ((rd_T159 l0 a1).f4) bt1276.1 bt1276.2.1 bt1276.2.2.1) else (if ((rd_T159 l0 a1).f0) = 15 then (whirligigref05_Eval.j2 k l0 l2 l3 (bt1276.1 == 2 && (bt1276.2.1 == 1 && (bt1276.2.2.1.toList == ([] : List UInt8)))) ((rd_T159 l0 a1).f0) ((rd_T159 l0 a1).f1.f0) ((rd_T159 l0 a1).f1.f1) ((rd_T159 l0 a1).f1.f2) ((rd_T159 l0 a1).f2) ((rd_T159 l0 a1).f3) ((rd_T159 l0 a1).f4) bt1276.1 bt1276.2.1 bt1276.2.2.1) else (whirligigref05_Eval.j2 k l0 l2 l3 false ((rd_T159 l0 a1).f0) ((rd_T159 l0 a1).f1.f0) ((rd_T159 l0 a1).f1.f1) ((rd_T159 l0 a1).f1.f2) ((rd_T159 l0 a1).f2) ((rd_T159 l0 a1).f3) ((rd_T159 l0 a1).f4) bt1276.1 bt1276.2.1 bt1276.2.2.1))) else (if ((rd_T159 l0 a1).f0) = 15 then (whirligigref05_Eval.j2 k l0 l2 l3 (bt1276.1 == 2 && (bt1276.2.1 == 1 && (bt1276.2.2.1.toList == ([] : List UInt8)))) ((rd_T159 l0 a1).f0) ((rd_T159 l0 a1).f1.f0) ((rd_T159 l0 a1).f1.f1) ((rd_T159 l0 a1).f1.f2) ((rd_T159 l0 a1).f2) ((rd_T159 l0 a1).f3) ((rd_T159 l0 a1).f4) bt1276.1 bt1276.2.1 bt1276.2.2.1) else (whirligigref05_Eval.j2 k l0 l2 l3 false ((rd_T159 l0 a1).f0) ((rd_T159 l0 a1).f1.f0) ((rd_T159 l0 a1).f1.f1) ((rd_T159 l0 a1).f1.f2) ((rd_T159 l0 a1).f2) ((rd_T159 l0 a1).f3) ((rd_T159 l0 a1).f4) bt1276.1 bt1276.2.1 bt1276.2.2.1))) else (whirligigref05_Eval.j3 k ((rd_T159 l0 a1).f0) ((rd_T159 l0 a1).f1.f0) ((rd_T159 l0 a1).f1.f1) ((rd_T159 l0 a1).f1.f2) ((rd_T159 l0 a1).f2) ((rd_T159 l0 a1).f3) ((rd_T159 l0 a1).f4) bt1276.1 bt1276.2.1 bt1276.2.2.1 0 0 (⟨#[]⟩ : ByteArray))) else (some (0, 0, (⟨#[]⟩ : ByteArray), bt1276.2.2.2))))))) else (none)) else (none)
end
end Go.Proofs.YtbngfhlciebeeaaDoor.L
end
section
namespace Go.Proofs.YtbngfhlciebeeaaDoor.Sp
set_option linter.unusedVariables false
set_option linter.unusedSimpArgs false
open Go.RowKit Go.Proofs.YtbngfhlciebeeaaDoorW.PrintWords Go.Proofs.YtbngfhlciebeeaaDoorW.PrintMore Go.Proofs.YtbngfhlciebeeaaDoor.L
def isErr (e : Int) : Prop := e = 21 ∨ e = 22 ∨ e = 15
def Comes (r : R4) (kd : Int) : Prop := (r.2.2.2 = 0 ∧ ValOk ⟨r.1, r.2.1, r.2.2.1⟩ ∧ Opn.I64 r.2.1 ∧ r.1 = kd) ∨ (isErr r.2.2.2 ∧ r.1 = 0 ∧ r.2.1 = 0 ∧ r.2.2.1 = ⟨#[]⟩)
theorem comes_ov (r : Int) : Comes (ovR r) 1 := by
  by_cases h : -9223372036854775808 ≤ r ∧ r ≤ 9223372036854775807
  · rw [ovR_in h]; exact Or.inl ⟨rfl, Or.inl ⟨rfl, rfl⟩, h, rfl⟩
  · rw [ovR_out h]; exact Or.inr ⟨Or.inl rfl, rfl, rfl, rfl⟩
theorem comes_tr (p : Bool) : Comes (trR p) 2 := by
  cases p
  · exact Or.inl ⟨rfl, Or.inr (Or.inl ⟨rfl, Or.inl rfl, rfl⟩), ⟨by decide, by decide⟩, rfl⟩
  · exact Or.inl ⟨rfl, Or.inr (Or.inl ⟨rfl, Or.inr rfl, rfl⟩), ⟨by decide, by decide⟩, rfl⟩
theorem comes_join {s t : ByteArray} (hs : PlainS s) (ht : PlainS t) : Comes (joinR s t) 3 := by
  unfold joinR
  by_cases h : s.size + t.size > 48
  · rw [if_pos h]; exact Or.inr ⟨Or.inr (Or.inr rfl), rfl, rfl, rfl⟩
  · rw [if_neg h]
    refine Or.inl ⟨rfl, Or.inr (Or.inr ⟨rfl, rfl, ?_⟩), (⟨by decide, by decide⟩ : Opn.I64 0), rfl⟩
    unfold PlainS at hs ht ⊢
    simp only [Bool.and_eq_true, decide_eq_true_eq] at hs ht ⊢
    refine ⟨?_, by rw [ByteArray.size_append]; omega⟩
    rw [ByteArray.data_append, Array.toList_append, List.all_append, hs.1, ht.1]; rfl
theorem comes_div {a b : Int} (ha : Opn.I64 a) (hb : Opn.I64 b) : Comes (divR a b) 1 := by
  unfold divR
  by_cases h : b = 0
  · rw [if_pos h]; exact Or.inr ⟨Or.inr (Or.inl rfl), rfl, rfl, rfl⟩
  · rw [if_neg h]; exact comes_ov _
theorem comes_rem {a b : Int} (ha : Opn.I64 a) (hb : Opn.I64 b) : Comes (remR a b) 1 := by
  unfold remR
  by_cases h : b = 0
  · rw [if_pos h]; exact Or.inr ⟨Or.inr (Or.inl rfl), rfl, rfl, rfl⟩
  · rw [if_neg h]; exact Or.inl ⟨rfl, Or.inl ⟨rfl, rfl⟩, tmod_in hb h, rfl⟩
theorem resK_val {op a b : Int} (ho : 1 ≤ op ∧ op ≤ 15) (h : resK op a b ≠ 0) : resK op a b = (if op = 1 then 2 else if op ≤ 5 then 1 else if op = 6 then a else if op = 7 then 1 else 2) := by
  rcases op_cases ho with rfl | rfl | rfl | rfl | rfl | rfl | rfl | rfl | rfl | rfl | rfl | rfl | rfl | rfl | rfl
  all_goals (simp [resK] at h ⊢)
  all_goals (first | omega | simp_all)
theorem reck_comes {op : Int} {a b : S103} (ho : 1 ≤ op ∧ op ≤ 15) (ha : ValOk a) (hb : ValOk b) (ia : Opn.I64 a.f1) (ib : Opn.I64 b.f1) (hr : resK op a.f0 b.f0 ≠ 0) : Comes (reckR op a b) (resK op a.f0 b.f0) := by
  have hk := resK_val ho hr
  by_cases h2 : op ≤ 2
  · rcases (show op = 1 ∨ op = 2 by omega) with rfl | rfl
    · rw [hk]; exact comes_tr _
    · rw [hk]; exact comes_ov _
  obtain ⟨k1, k2, k3, k4, k5⟩ := resK_kinds hr (by omega)
  rw [hk]
  rcases op_cases ho with rfl | rfl | rfl | rfl | rfl | rfl | rfl | rfl | rfl | rfl | rfl | rfl | rfl | rfl | rfl
  · omega
  · omega
  · exact comes_ov _
  · exact comes_div ia ib
  · exact comes_rem ia ib
  · show Comes (if a.f0 = 3 then joinR a.f2 b.f2 else ovR (a.f1 + b.f1)) a.f0
    rcases k3 rfl with e | e
    · rw [if_neg (by omega), e]; exact comes_ov _
    · rw [if_pos e, e]
      refine comes_join ?_ ?_
      · rcases ha with h | h | h
        · omega
        · omega
        · exact h.2.2
      · rcases hb with h | h | h
        · omega
        · omega
        · exact h.2.2
  · exact comes_ov _
  all_goals exact comes_tr _
def lookC (s : ByteArray) : List S116 → Option S103
  | [] => none
  | v :: vs => if v.f0 = s then some v.f1 else lookC s vs
theorem lookC_idx (s : ByteArray) : ∀ (vs : List S116), (match vs.findIdx? (fun x => decide (x.f0 = s)) with | some j => j < vs.length ∧ lookC s vs = some (vs.getD j ⟨⟨#[]⟩, ⟨0, 0, ⟨#[]⟩⟩⟩).f1 | none => lookC s vs = none)
  | [] => rfl
  | v :: vs => by
    have ih := lookC_idx s vs
    rw [List.findIdx?_cons]
    by_cases h : v.f0 = s
    · rw [decide_eq_true h]
      simp only [if_true]
      exact ⟨by simp, by simp [lookC, h]⟩
    · rw [decide_eq_false h]
      simp only [Bool.false_eq_true, if_false]
      cases hx : vs.findIdx? (fun x => decide (x.f0 = s)) with
      | none => rw [hx] at ih; simp [lookC, h]; exact ih
      | some j =>
        rw [hx] at ih
        simp only [Option.map_some, lookC, if_neg h]
        exact ⟨by simp; exact ih.1, by simpa using ih.2⟩
theorem efind_eq (vs : List S116) (ss : List ByteArray) (s : ByteArray) : eval_Env_find.f vs ss s = some (match lookC s vs with | some v => (v.f0, v.f1, v.f2, 0) | none => (0, 0, ⟨#[]⟩, 24)) := by
  have h := lookC_idx s vs
  unfold eval_Env_find.f
  cases hx : vs.findIdx? (fun x => decide (x.f0 = s)) with
  | none =>
    rw [hx] at h
    have : idxCell s vs = -1 := by unfold idxCell; rw [hx]
    rw [this, h]; rfl
  | some j =>
    rw [hx] at h
    have : idxCell s vs = (j : Int) := by unfold idxCell; rw [hx]
    obtain ⟨h1, h2⟩ := h
    rw [this, if_pos (by omega), rd116 h1, h2, List.getD_eq_getElem?_getD]
    simp only [List.getElem?_eq_getElem h1]
    rfl
theorem rd166 {l : List S116} {j : Nat} (h : j < l.length) : rd_T166 (l.map c166) (j : Int) = c166 l[j] := by
  unfold rd_T166
  rw [Int.toNat_natCast, List.getD_eq_getElem?_getD, List.getElem?_map, List.getElem?_eq_getElem h]
  rfl
theorem efind_l0 (vs : List S116) (hv : vs.length ≤ 1000) (x : S156) : ∀ (d j : Nat), j ≤ vs.length → vs.length - j = d →
    Ev (fun k => whirligigref05_Eval.l0 k (vs.map c166) (j : Int) x.f0 x.f1.f0 x.f1.f1 x.f1.f2 x.f2 x.f3 x.f4) (match lookC x.f2 (vs.drop j) with | some v => (v.f0, v.f1, v.f2, 0) | none => (0, 0, ⟨#[]⟩, 24)) := by
  intro d
  induction d with
  | zero =>
    intro j hj hd
    refine Ev.succ ?_
    simp only [whirligigref05_Eval.l0]
    rw [List.drop_eq_nil_of_le (by omega)]
    exact Ev.neg (by simp; omega) (Ev.some rfl)
  | succ d ih =>
    intro j hj hd
    have hjl : j < vs.length := by omega
    refine Ev.succ ?_
    simp only [whirligigref05_Eval.l0]
    rw [rd166 hjl, up1 (by omega), List.drop_eq_getElem_cons hjl]
    refine Ev.pos (by simp; omega) (Ev.pos (by omega) ?_)
    by_cases h : vs[j].f0 = x.f2
    · simp only [lookC, if_pos h]
      exact Ev.pos (toL_inj.2 h) (Ev.some rfl)
    · simp only [lookC, if_neg h]
      exact Ev.neg (fun e => h (toL_inj.1 e)) (ih (j + 1) (by omega) (by omega))
theorem efind_l1 (ss : List ByteArray) (hs : ss.length ≤ 8796093022208) (x : S156) : ∀ (d j : Nat), j ≤ ss.length → ss.length - j = d →
    Ev (fun k => whirligigref05_Eval.l1 k ss (j : Int) x.f0 x.f1.f0 x.f1.f1 x.f1.f2 x.f2 x.f3 x.f4) (trR (hasS x.f2 (ss.drop j))) := by
  intro d
  induction d with
  | zero =>
    intro j hj hd
    refine Ev.succ ?_
    simp only [whirligigref05_Eval.l1]
    rw [List.drop_eq_nil_of_le (by omega)]
    exact Ev.neg (by omega) (Ev.some rfl)
  | succ d ih =>
    intro j hj hd
    have hjl : j < ss.length := by omega
    refine Ev.succ ?_
    simp only [whirligigref05_Eval.l1]
    rw [rdB hjl, up1 (by omega), List.drop_eq_getElem_cons hjl]
    refine Ev.pos (by omega) (Ev.pos (by omega) ?_)
    by_cases h : ss[j] = x.f2
    · rw [hasS_cons, decide_eq_true h]
      exact Ev.pos (toL_inj.2 h) (Ev.some rfl)
    · rw [show hasS x.f2 (ss[j] :: ss.drop (j + 1)) = hasS x.f2 (ss.drop (j + 1)) by rw [hasS_cons, decide_eq_false h]; rfl]
      exact Ev.neg (fun e => h (toL_inj.1 e)) (ih (j + 1) (by omega) (by omega))
def k118 (x : S116) : S118 := ⟨x.f0, x.f1.f0⟩
theorem look_kind (s : ByteArray) : ∀ vs : List S116, lookV s (vs.map k118) = (lookC s vs).map (·.f0)
  | [] => rfl
  | v :: vs => by
    simp only [List.map_cons, lookV, lookC]
    by_cases h : v.f0 = s
    · rw [if_pos (show (k118 v).f0 = s from h), if_pos h]; rfl
    · rw [if_neg (show ¬ (k118 v).f0 = s from h), if_neg h]; exact look_kind s vs
theorem look_ok (s : ByteArray) {p : S103 → Prop} : ∀ (vs : List S116), (∀ x ∈ vs, p x.f1) → ∀ v, lookC s vs = some v → p v
  | [], _, v, h => by cases h
  | x :: vs, hp, v, h => by
    simp only [lookC] at h
    by_cases hx : x.f0 = s
    · rw [if_pos hx] at h; rw [← Option.some.inj h]; exact hp x List.mem_cons_self
    · rw [if_neg hx] at h; exact look_ok s vs (fun y hy => hp y (List.mem_cons_of_mem _ hy)) v h
def enR (op : Int) (a : S103) : Bool := decide (a.f0 = 2) && ((op == 14 && a.f1 == 0) || (op == 15 && a.f1 != 0))
theorem enough_eq (op : Int) (a : S103) : eval_enough.f op a.f0 a.f1 a.f2 = some (enR op a) := by
  unfold eval_enough.f enR val_Value_Yes.f
  by_cases h2 : a.f0 = 2
  · simp only [if_pos h2, Option.bind_some, decide_eq_true h2, Bool.true_and]
    by_cases h14 : op = 14
    · subst h14
      by_cases h0 : a.f1 = 0
      · simp [h0]
      · simp [h0]
    · by_cases h15 : op = 15
      · subst h15
        simp
      · simp [h14, h15]
  · simp [h2]
end Go.Proofs.YtbngfhlciebeeaaDoor.Sp
end
