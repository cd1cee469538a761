/- Printed and hand-written steps towards the row (KindMore), those that it reaches. -/
import Derived.Test.YtbngfhlciebeeaaDoorKindMoreG28
import Derived.Test.YtbngfhlciebeeaaDoorKindMoreG32
import Derived.Test.YtbngfhlciebeeaaDoorKindMoreG4
import Derived.Test.YtbngfhlciebeeaaDoorKindMoreG5
section
namespace Go.Proofs.YtbngfhlciebeeaaDoor.Sp
set_option linter.unusedVariables false
set_option linter.unusedSimpArgs false
open Go.RowKit Go.Proofs.YtbngfhlciebeeaaDoorW.PrintWords Go.Proofs.YtbngfhlciebeeaaDoorW.PrintMore Go.Proofs.YtbngfhlciebeeaaDoor.L
def resK (op a b : Int) : Int :=
  if op = 1 then (if a = 2 then 2 else 0)
  else if op = 2 then (if a = 1 then 1 else 0)
  else if op = 6 then (if a = b ∧ (a = 1 ∨ a = 3) then a else 0)
  else if op ≤ 7 then (if a = 1 ∧ b = 1 then 1 else 0)
  else if op ≤ 11 then (if a = b ∧ (a = 1 ∨ a = 3) then 2 else 0)
  else if op ≤ 13 then (if a = b ∧ 1 ≤ a ∧ a ≤ 3 then 2 else 0)
  else if a = 2 ∧ b = 2 then 2 else 0
theorem op_cases {op : Int} (h : 1 ≤ op ∧ op ≤ 15) : op = 1 ∨ op = 2 ∨ op = 3 ∨ op = 4 ∨ op = 5 ∨ op = 6 ∨ op = 7 ∨ op = 8 ∨ op = 9 ∨ op = 10 ∨ op = 11 ∨ op = 12 ∨ op = 13 ∨ op = 14 ∨ op = 15 := by omega
def vres (op a b : Int) : Int × Bool :=
  if op = 1 then (2, a == 2)
  else if op = 2 then (1, a == 1)
  else if op = 6 then (if a = b then (if a = 1 then (a, true) else (a, a == 3)) else (a, false))
  else if op ≤ 7 then (if a = 1 then (1, b == 1) else (1, false))
  else if op ≤ 11 then (if a = b then (if a = 1 then (2, true) else (2, a == 3)) else (2, false))
  else if op ≤ 13 then (if a = b then (if a ≥ 1 then (2, decide (a ≤ 3)) else (2, false)) else (2, false))
  else (if a = 2 then (2, b == 2) else (2, false))
theorem vResult_f {op : Int} (h : 1 ≤ op ∧ op ≤ 15) (a b : Int) (k : Nat) : val_Result.f (k + 3) op a b = some (vres op a b) := by
  rcases op_cases h with rfl | rfl | rfl | rfl | rfl | rfl | rfl | rfl | rfl | rfl | rfl | rfl | rfl | rfl | rfl
  all_goals (simp [val_Result.f, val_Result.j0, val_Result.j1, val_Result.j2, vres])
  all_goals (repeat' split)
  all_goals (first | rfl | (simp_all; done))
theorem vres_is {op : Int} (h : 1 ≤ op ∧ op ≤ 15) (a b : Int) : ((vres op a b).2 = true → (vres op a b).1 = resK op a b ∧ resK op a b ≠ 0) ∧ ((vres op a b).2 = false → resK op a b = 0) := by
  rcases op_cases h with rfl | rfl | rfl | rfl | rfl | rfl | rfl | rfl | rfl | rfl | rfl | rfl | rfl | rfl | rfl
  all_goals (simp [vres, resK])
  all_goals (repeat' split)
  all_goals (simp_all)
  all_goals (first | omega | (intros; omega) | (constructor <;> intros <;> omega))
theorem vResult_ev {op : Int} (h : 1 ≤ op ∧ op ≤ 15) (a b : Int) : Ev (fun k => val_Result.f k op a b) (vres op a b) := ⟨3, fun k hk => by obtain ⟨j, rfl⟩ : ∃ j, k = j + 3 := ⟨k - 3, by omega⟩; exact vResult_f h a b j⟩
theorem rResult_f {op : Int} (h : 1 ≤ op ∧ op ≤ 15) (a b : Int) (k : Nat) : whirligigref01_Result.f (k + 6) op a b = some (resK op a b) := by
  rcases op_cases h with rfl | rfl | rfl | rfl | rfl | rfl | rfl | rfl | rfl | rfl | rfl | rfl | rfl | rfl | rfl
  all_goals (simp [whirligigref01_Result.f, whirligigref01_Result.j0, whirligigref01_Result.j1, whirligigref01_Result.j2, whirligigref01_Result.j3, whirligigref01_Result.j4, whirligigref01_Result.j5, resK])
  all_goals (repeat' split)
  all_goals (simp_all)
  all_goals (first | omega | (intros; omega))
theorem rResult_ev {op : Int} (h : 1 ≤ op ∧ op ≤ 15) (a b : Int) : Ev (fun k => whirligigref01_Result.f k op a b) (resK op a b) := ⟨6, fun k hk => by obtain ⟨j, rfl⟩ : ∃ j, k = j + 6 := ⟨k - 6, by omega⟩; exact rResult_f h a b j⟩
def ref159 (x : S156) : S159 := ⟨x.f0, ⟨x.f1.f0, x.f1.f1, x.f1.f2⟩, x.f2, x.f3, x.f4⟩
def v151 (x : S118) : S151 := ⟨x.f0, x.f1⟩
theorem rd159 {l : List S156} {j : Nat} (h : j < l.length) : rd_T159 (l.map ref159) (j : Int) = ref159 l[j] := by
  unfold rd_T159
  rw [Int.toNat_natCast, List.getD_eq_getElem?_getD, List.getElem?_map, List.getElem?_eq_getElem h]
  rfl
theorem rd151 {l : List S118} {j : Nat} (h : j < l.length) : rd_T151 (l.map v151) (j : Int) = v151 l[j] := by
  unfold rd_T151
  rw [Int.toNat_natCast, List.getD_eq_getElem?_getD, List.getElem?_map, List.getElem?_eq_getElem h]
  rfl
theorem rd118' {l : List S118} {j : Nat} (h : j < l.length) : rd_T118 l (j : Int) = l[j] := by
  unfold rd_T118
  rw [Int.toNat_natCast, List.getD_eq_getElem?_getD, List.getElem?_eq_getElem h]
  rfl
def lookV (s : ByteArray) : List S118 → Option Int
  | [] => none
  | v :: vs => if v.f0 = s then some v.f1 else lookV s vs
theorem lookV_idx (s : ByteArray) : ∀ (vs : List S118), (match vs.findIdx? (fun x => decide (x.f0 = s)) with | some j => j < vs.length ∧ lookV s vs = some (vs.getD j ⟨⟨#[]⟩, 0⟩).f1 | none => lookV s vs = none)
  | [] => rfl
  | v :: vs => by
    have ih := lookV_idx s vs
    rw [List.findIdx?_cons]
    by_cases h : v.f0 = s
    · rw [decide_eq_true h]
      simp only [if_true]
      exact ⟨by simp, by simp [lookV, h]⟩
    · rw [decide_eq_false h]
      simp only [Bool.false_eq_true, if_false]
      cases hx : vs.findIdx? (fun x => decide (x.f0 = s)) with
      | none => rw [hx] at ih; simp [lookV, h]; exact ih
      | some j =>
        rw [hx] at ih
        simp only [Option.map_some, lookV, if_neg h]
        exact ⟨by simp; exact ih.1, by simpa using ih.2⟩
theorem find_eq (vs : List S118) (ss : List ByteArray) (s : ByteArray) : kind_Scope_find.f vs ss s = some (match lookV s vs with | some k => (k, true) | none => (0, false)) := by
  have h := lookV_idx s vs
  unfold kind_Scope_find.f
  cases hx : vs.findIdx? (fun x => decide (x.f0 = s)) with
  | none =>
    rw [hx] at h
    have : idxVar s vs = -1 := by unfold idxVar; rw [hx]
    rw [this, h]; rfl
  | some j =>
    rw [hx] at h
    have : idxVar s vs = (j : Int) := by unfold idxVar; rw [hx]
    obtain ⟨h1, h2⟩ := h
    rw [this, if_pos (by omega), rd118' h1, h2, List.getD_eq_getElem?_getD]
    simp only [List.getElem?_eq_getElem h1]
    rfl
theorem rfind_l0 (i : Int) (vs : List S118) (hv : vs.length ≤ 1000) (x : S156) : ∀ (d j : Nat), j ≤ vs.length → vs.length - j = d →
    Ev (fun k => whirligigref04_Of.l0 k i (vs.map v151) (j : Int) x.f0 x.f1.f0 x.f1.f1 x.f1.f2 x.f2 x.f3 x.f4) (match lookV x.f2 (vs.drop j) with | some k => (k, 0, 0) | none => (0, 24, i)) := by
  intro d
  induction d with
  | zero =>
    intro j hj hd
    refine Ev.succ ?_
    simp only [whirligigref04_Of.l0]
    rw [List.drop_eq_nil_of_le (by omega)]
    exact Ev.neg (by simp; omega) (Ev.some rfl)
  | succ d ih =>
    intro j hj hd
    have hjl : j < vs.length := by omega
    refine Ev.succ ?_
    simp only [whirligigref04_Of.l0]
    rw [rd151 hjl, up1 (by omega), List.drop_eq_getElem_cons hjl]
    refine Ev.pos (by simp; omega) (Ev.pos (by omega) ?_)
    by_cases h : vs[j].f0 = x.f2
    · simp only [lookV, if_pos h]
      exact Ev.pos (toL_inj.2 h) (Ev.some rfl)
    · simp only [lookV, if_neg h]
      exact Ev.neg (fun e => h (toL_inj.1 e)) (ih (j + 1) (by omega) (by omega))
theorem rdB {l : List ByteArray} {j : Nat} (h : j < l.length) : rdOf ByteArray.empty l (j : Int) = l[j] := by
  unfold rdOf
  rw [Int.toNat_natCast, List.getD_eq_getElem?_getD, List.getElem?_eq_getElem h]; rfl
def hasS (s : ByteArray) (ss : List ByteArray) : Bool := ss.any fun x => decide (x = s)
theorem hasS_cons (s x : ByteArray) (ss : List ByteArray) : hasS s (x :: ss) = (decide (x = s) || hasS s ss) := rfl
theorem index_l0 (ss : List ByteArray) (hs : ss.length ≤ 8796093022208) (s : ByteArray) : ∀ (d j : Nat), j ≤ ss.length → ss.length - j = d →
    ∃ r, Ev (fun k => slices_Index_string_string.l0 k ss s (ss.length : Int) (j : Int)) r ∧ decide (r ≥ 0) = hasS s (ss.drop j) := by
  intro d
  induction d with
  | zero =>
    intro j hj hd
    refine ⟨-1, Ev.succ ?_, ?_⟩
    · simp only [slices_Index_string_string.l0]
      exact Ev.neg (by omega) (Ev.some rfl)
    · rw [List.drop_eq_nil_of_le (by omega)]; rfl
  | succ d ih =>
    intro j hj hd
    have hjl : j < ss.length := by omega
    obtain ⟨r, hr, hd'⟩ := ih (j + 1) (by omega) (by omega)
    by_cases h : s = ss[j]
    · refine ⟨(j : Int), Ev.succ ?_, ?_⟩
      · simp only [slices_Index_string_string.l0]
        rw [rdB hjl]
        exact Ev.pos (by omega) (Ev.pos (by omega) (Ev.pos (by omega) (Ev.pos (toL_inj.2 h) (Ev.some rfl))))
      · rw [List.drop_eq_getElem_cons hjl, decide_eq_true (by omega), hasS_cons, decide_eq_true h.symm]; rfl
    · refine ⟨r, Ev.succ ?_, ?_⟩
      · simp only [slices_Index_string_string.l0]
        rw [rdB hjl, up1 (by omega)]
        exact Ev.pos (by omega) (Ev.pos (by omega) (Ev.pos (by omega) (Ev.neg (fun e => h (toL_inj.1 e)) hr)))
      · rw [hd', List.drop_eq_getElem_cons hjl, hasS_cons, decide_eq_false (Ne.symm h)]; rfl
theorem contains_ev (ss : List ByteArray) (hs : ss.length ≤ 8796093022208) (s : ByteArray) : Ev (fun k => slices_Contains_string_string.f k ss s) (hasS s ss) := by
  obtain ⟨r, hr, hd⟩ := index_l0 ss hs s ss.length 0 (by omega) (by omega)
  unfold slices_Contains_string_string.f
  refine Ev.bind (a := r) (by unfold slices_Index_string_string.f; exact hr) (Ev.some ?_)
  rw [hd, List.drop_zero]
theorem rfind_l1 (i : Int) (ss : List ByteArray) (hs : ss.length ≤ 8796093022208) (x : S156) : ∀ (d j : Nat), j ≤ ss.length → ss.length - j = d →
    Ev (fun k => whirligigref04_Of.l1 k i ss (j : Int) x.f0 x.f1.f0 x.f1.f1 x.f1.f2 x.f2 x.f3 x.f4) (if hasS x.f2 (ss.drop j) = true then (2, 0, 0) else (0, 24, i)) := by
  intro d
  induction d with
  | zero =>
    intro j hj hd
    refine Ev.succ ?_
    simp only [whirligigref04_Of.l1]
    rw [List.drop_eq_nil_of_le (by omega)]
    exact Ev.neg (by omega) (Ev.some rfl)
  | succ d ih =>
    intro j hj hd
    have hjl : j < ss.length := by omega
    refine Ev.succ ?_
    simp only [whirligigref04_Of.l1]
    rw [rdB hjl, up1 (by omega), List.drop_eq_getElem_cons hjl]
    refine Ev.pos (by omega) (Ev.pos (by omega) ?_)
    by_cases h : ss[j] = x.f2
    · rw [if_pos (by rw [hasS_cons, decide_eq_true h]; rfl)]
      exact Ev.pos (toL_inj.2 h) (Ev.some rfl)
    · rw [show hasS x.f2 (ss[j] :: ss.drop (j + 1)) = hasS x.f2 (ss.drop (j + 1)) by rw [hasS_cons, decide_eq_false h]; rfl]
      exact Ev.neg (fun e => h (toL_inj.1 e)) (ih (j + 1) (by omega) (by omega))
end Go.Proofs.YtbngfhlciebeeaaDoor.Sp
end
section
namespace Go.Proofs.YtbngfhlciebeeaaDoor.Sp
set_option linter.unusedVariables false
set_option linter.unusedSimpArgs false
open Go.RowKit Go.Proofs.YtbngfhlciebeeaaDoorW.PrintWords Go.Proofs.YtbngfhlciebeeaaDoorW.PrintMore Go.Proofs.YtbngfhlciebeeaaDoor.L
theorem NodeOk.cases_op {x : S156} {j : Nat} (h : NodeOk x j) : x.f0 = 0 ∨ x.f0 = 16 ∨ x.f0 = 17 ∨ ((x.f0 = 1 ∨ x.f0 = 2) ∧ x.f3 = (j : Int) - 1 ∧ x.f4 = 0 ∧ 1 ≤ j) ∨ ((3 ≤ x.f0 ∧ x.f0 ≤ 15) ∧ 0 ≤ x.f3 ∧ x.f3 < (j : Int) ∧ x.f4 = (j : Int) - 1) := by
  cases h with
  | lit v h h1 => exact Or.inl rfl
  | name op s o h => exact o.elim (fun h => Or.inr (Or.inl h)) (fun h => Or.inr (Or.inr (Or.inl h)))
  | one op o h1 => exact Or.inr (Or.inr (Or.inr (Or.inl ⟨o, rfl, rfl, h1⟩)))
  | two op c o h0 h1 => exact Or.inr (Or.inr (Or.inr (Or.inr ⟨o, h0, h1, rfl⟩)))
theorem rdI (l : List Int) (j : Nat) : rd l (j : Int) = l.getD j 0 := rfl
section
variable {l : List S156} {vs : List S118} {ss : List ByteArray}
theorem kind_step {ks : List Int} {j : Nat} {x : S156} (hl : l.length ≤ 1000) (hx : l[j]? = some x) (hk : ks.length = l.length) {kd e : Int} {R : Int × Int}
    (hn : Ev (fun k => kind_Scope_node.f k vs ss x.f0 x.f1.f0 x.f1.f1 x.f1.f2 x.f2 x.f3 x.f4 ks) (kd, e))
    (h0 : e = 0 → Ev (fun k => kind_Of.l0 k l (ks.set j kd) l (l.length : Int) ((j + 1 : Nat) : Int) vs ss) R) (h1 : e ≠ 0 → R = (0, e)) :
    Ev (fun k => kind_Of.l0 k l ks l (l.length : Int) (j : Int) vs ss) R := by
  have hj := (List.getElem?_eq_some_iff.1 hx).1
  have hx' : l[j] = x := (List.getElem?_eq_some_iff.1 hx).2
  refine Ev.succ ?_
  simp only [kind_Of.l0]
  rw [rd156 hj, hx', up1 (by omega)]
  refine Ev.pos (by omega) (Ev.pos (by omega) (Ev.pos (by omega) (Ev.bind hn ?_)))
  by_cases he : e = 0
  · exact Ev.pos he (Ev.pos (by omega) (h0 he))
  · exact Ev.neg he (Ev.some (h1 he).symm)
theorem node_op {ks : List Int} {x : S156} {i j : Nat} (ho : 1 ≤ x.f0 ∧ x.f0 ≤ 15) (h3 : x.f3 = (i : Int)) (h4 : x.f4 = (j : Int)) (hi : i < ks.length) (hj : j < ks.length) :
    Ev (fun k => kind_Scope_node.f k vs ss x.f0 x.f1.f0 x.f1.f1 x.f1.f2 x.f2 x.f3 x.f4 ks) (if resK x.f0 (ks.getD i 0) (ks.getD j 0) = 0 then (0, 20) else (resK x.f0 (ks.getD i 0) (ks.getD j 0), 0)) := by
  unfold kind_Scope_node.f
  rw [h3, h4, rdI, rdI]
  have hv := vres_is ho (ks.getD i 0) (ks.getD j 0)
  refine Ev.neg (by omega) (Ev.neg (by omega) (Ev.neg (by omega) (Ev.pos (by omega) (Ev.pos (by omega) (Ev.pos (by omega) (Ev.pos (by omega) (Ev.bind (vResult_ev ho _ _) ?_)))))))
  cases hb : (vres x.f0 (ks.getD i 0) (ks.getD j 0)).2 with
  | true =>
    obtain ⟨h1, h2⟩ := hv.1 hb
    rw [if_neg h2]
    exact Ev.pos rfl (Ev.some (by rw [h1]))
  | false =>
    rw [if_pos (hv.2 hb)]
    exact Ev.neg (by decide) (Ev.some rfl)
theorem kind_seg (hl : l.length ≤ 1000) (hvs : vs.length ≤ 1000) (hss : ss.length ≤ 1000) (hok : ∀ (j : Nat) (x : S156), l[j]? = some x → NodeOk x j) {a b : Nat} (s : Seg l a b) :
    ∃ kd err at_, Ev (fun k => whirligigref04_Of.f k (l.map ref159) (b : Int) (vs.map v151) ss) (kd, err, at_) ∧ (err ≠ 0 → kd = 0) ∧
      ∀ (ks : List Int) (R : Int × Int), ks.length = l.length →
        (err = 0 → ∀ ks' : List Int, ks'.length = l.length → (∀ j, j < a → ks'.getD j 0 = ks.getD j 0) → ks'.getD b 0 = kd → Ev (fun k => kind_Of.l0 k l ks' l (l.length : Int) ((b + 1 : Nat) : Int) vs ss) R) →
        (err ≠ 0 → R = (0, err)) → Ev (fun k => kind_Of.l0 k l ks l (l.length : Int) (a : Int) vs ss) R := by
  have getD_set : ∀ (ks : List Int) (j i : Nat) (v : Int), j < ks.length → (ks.set j v).getD i 0 = if i = j then v else ks.getD i 0 := fun ks j i v h => by
    simp only [List.getD_eq_getElem?_getD, List.getElem?_set]
    by_cases e : j = i
    · subst e; simp [h]
    · rw [if_neg e, if_neg (Ne.symm e)]
  have hm : (l.map ref159).length = l.length := List.length_map ..
  induction s with
  | @leaf b x h o =>
    have hb := (List.getElem?_eq_some_iff.1 h).1
    have hx : l[b] = x := (List.getElem?_eq_some_iff.1 h).2
    -- what the node comes to on either side
    have key : ∃ kd err at_, Ev (fun k => whirligigref04_Of.f k (l.map ref159) (b : Int) (vs.map v151) ss) (kd, err, at_) ∧ (err ≠ 0 → kd = 0) ∧ ∀ ks : List Int, Ev (fun k => kind_Scope_node.f k vs ss x.f0 x.f1.f0 x.f1.f1 x.f1.f2 x.f2 x.f3 x.f4 ks) (kd, err) := by
      rcases o with o | o | o
      · refine ⟨x.f1.f0, 0, 0, Ev.succ ?_, fun h => absurd rfl h, fun ks => ?_⟩
        · simp only [whirligigref04_Of.f]
          rw [rd159 hb, hx]
          exact Ev.pos (by omega) (Ev.pos (by omega) (Ev.pos o (Ev.some rfl)))
        · unfold kind_Scope_node.f
          exact Ev.pos o (Ev.some rfl)
      · have hr := rfind_l0 (b : Int) vs hvs x vs.length 0 (by omega) (by omega)
        rw [List.drop_zero] at hr
        have hf := find_eq vs ss x.f2
        have ho : ¬ x.f0 = 0 := by omega
        cases hlk : lookV x.f2 vs with
        | none =>
          rw [hlk] at hr hf
          refine ⟨0, 24, (b : Int), Ev.succ ?_, fun _ => rfl, fun ks => ?_⟩
          · simp only [whirligigref04_Of.f]
            rw [rd159 hb, hx]
            exact Ev.pos (by omega) (Ev.pos (by omega) (Ev.neg ho (Ev.pos o hr)))
          · unfold kind_Scope_node.f
            exact Ev.neg ho (Ev.pos o (Ev.bind_some hf (Ev.neg (by decide) (Ev.some rfl))))
        | some kd =>
          rw [hlk] at hr hf
          refine ⟨kd, 0, 0, Ev.succ ?_, fun h => absurd rfl h, fun ks => ?_⟩
          · simp only [whirligigref04_Of.f]
            rw [rd159 hb, hx]
            exact Ev.pos (by omega) (Ev.pos (by omega) (Ev.neg ho (Ev.pos o hr)))
          · unfold kind_Scope_node.f
            exact Ev.neg ho (Ev.pos o (Ev.bind_some hf (Ev.pos rfl (Ev.some rfl))))
      · have hr := rfind_l1 (b : Int) ss (by omega) x ss.length 0 (by omega) (by omega)
        rw [List.drop_zero] at hr
        have hf := contains_ev ss (by omega) x.f2
        have ho : ¬ x.f0 = 0 := by omega
        have ho' : ¬ x.f0 = 16 := by omega
        cases hlk : hasS x.f2 ss with
        | false =>
          rw [hlk] at hr hf
          refine ⟨0, 24, (b : Int), Ev.succ ?_, fun _ => rfl, fun ks => ?_⟩
          · simp only [whirligigref04_Of.f]
            rw [rd159 hb, hx]
            exact Ev.pos (by omega) (Ev.pos (by omega) (Ev.neg ho (Ev.neg ho' (Ev.pos o hr))))
          · unfold kind_Scope_node.f
            exact Ev.neg ho (Ev.neg ho' (Ev.pos o (Ev.bind hf (Ev.neg (by decide) (Ev.some rfl)))))
        | true =>
          rw [hlk] at hr hf
          refine ⟨2, 0, 0, Ev.succ ?_, fun h => absurd rfl h, fun ks => ?_⟩
          · simp only [whirligigref04_Of.f]
            rw [rd159 hb, hx]
            exact Ev.pos (by omega) (Ev.pos (by omega) (Ev.neg ho (Ev.neg ho' (Ev.pos o hr))))
          · unfold kind_Scope_node.f
            exact Ev.neg ho (Ev.neg ho' (Ev.pos o (Ev.bind hf (Ev.pos rfl (Ev.some rfl)))))
    obtain ⟨kd, err, at_, h1, h2, h3⟩ := key
    refine ⟨kd, err, at_, h1, h2, fun ks R hk h4 h5 => kind_step hl h hk (h3 ks) (fun e => h4 e _ (by simp [hk]) (fun j hj => ?_) ?_) h5⟩
    · rw [getD_set _ _ _ _ (by omega), if_neg (by omega)]
    · rw [getD_set _ _ _ _ (by omega), if_pos rfl]
  | @one a b x h o h3 s ih =>
    have hb := (List.getElem?_eq_some_iff.1 h).1
    have hx : l[b + 1] = x := (List.getElem?_eq_some_iff.1 h).2
    have hle := s.le
    obtain ⟨ka, ea, aa, r1, r2, r3⟩ := ih
    have h4 : x.f4 = ((0 : Nat) : Int) := by
      rcases (hok _ _ h).cases_op with h | h | h | h | h <;> omega
    have ho : 1 ≤ x.f0 ∧ x.f0 ≤ 15 := by omega
    -- the document
    have hres : resK x.f0 ka 0 = resK x.f0 ka 0 := rfl
    have hdoc : Ev (fun k => whirligigref04_Of.f k (l.map ref159) ((b + 1 : Nat) : Int) (vs.map v151) ss) (if ea = 0 then (if resK x.f0 ka 0 = 0 then (0, 20, ((b + 1 : Nat) : Int)) else (resK x.f0 ka 0, 0, 0)) else (0, ea, aa)) := by
      refine Ev.succ ?_
      simp only [whirligigref04_Of.f]
      rw [rd159 hb, hx]
      refine Ev.pos (by omega) (Ev.pos (by omega) (Ev.neg (show ¬ x.f0 = 0 by omega) (Ev.neg (show ¬ x.f0 = 16 by omega) (Ev.neg (show ¬ x.f0 = 17 by omega) ?_))))
      refine Ev.bind (a := (ka, ea, aa)) (by rw [show (ref159 x).f3 = (b : Int) from h3]; exact r1) ?_
      have hd : decide ((ref159 x).f0 > 2) = false := decide_eq_false (show ¬ x.f0 > 2 by omega)
      by_cases e : ea = 0
      · rw [if_pos e]
        refine Ev.pos e (Ev.succ ?_)
        simp only [whirligigref04_Of.j2]
        rw [hd]
        refine Ev.neg (by decide) (Ev.succ ?_)
        simp only [whirligigref04_Of.j3]
        refine Ev.pos e (Ev.bind (rResult_ev ho ka 0) ?_)
        by_cases g : resK x.f0 ka 0 = 0
        · exact Ev.pos g (Ev.some (if_pos g).symm)
        · exact Ev.neg g (Ev.some (if_neg g).symm)
      · rw [if_neg e]
        refine Ev.neg e (Ev.succ ?_)
        simp only [whirligigref04_Of.j2]
        refine Ev.neg (by decide) (Ev.succ ?_)
        simp only [whirligigref04_Of.j3]
        exact Ev.neg e (Ev.some rfl)
    by_cases e : ea = 0
    · rw [if_pos e] at hdoc
      -- the kind does not hang on a second part
      have hany : ∀ y, resK x.f0 ka y = resK x.f0 ka 0 := fun y => by
        unfold resK
        rcases o with o | o
        · simp only [if_pos o]
        · have n1 : ¬ x.f0 = 1 := by omega
          simp only [if_neg n1, if_pos o]
      have cont : ∀ (kd err at_ : Int), (if resK x.f0 ka 0 = 0 then ((0 : Int), (20 : Int)) else (resK x.f0 ka 0, 0)) = (kd, err) → ∀ (ks : List Int) (R : Int × Int), ks.length = l.length →
        (err = 0 → ∀ ks' : List Int, ks'.length = l.length → (∀ j, j < a → ks'.getD j 0 = ks.getD j 0) → ks'.getD (b + 1) 0 = kd → Ev (fun k => kind_Of.l0 k l ks' l (l.length : Int) ((b + 1 + 1 : Nat) : Int) vs ss) R) →
        (err ≠ 0 → R = (0, err)) → Ev (fun k => kind_Of.l0 k l ks l (l.length : Int) (a : Int) vs ss) R := fun kd err at_ hke ks R hk c1 c2 => by
          refine r3 ks R hk (fun _ ks1 k1 k2 k3 => ?_) (fun h => absurd e h)
          have hn := node_op (vs := vs) (ss := ss) (ks := ks1) ho h3 h4 (by omega) (by omega)
          rw [k3, hany, hke] at hn
          refine kind_step hl h k1 hn (fun e0 => c1 e0 _ (by simp [k1]) (fun j hj => ?_) ?_) c2
          · rw [getD_set _ _ _ _ (by omega), if_neg (by omega), k2 j hj]
          · rw [getD_set _ _ _ _ (by omega), if_pos rfl]
      by_cases g : resK x.f0 ka 0 = 0
      · rw [if_pos g] at hdoc
        exact ⟨0, 20, _, hdoc, fun _ => rfl, cont 0 20 0 (if_pos g)⟩
      · rw [if_neg g] at hdoc
        exact ⟨_, 0, _, hdoc, fun h => absurd rfl h, cont _ 0 0 (if_neg g)⟩
    · rw [if_neg e] at hdoc
      exact ⟨0, ea, aa, hdoc, fun _ => rfl, fun ks R hk c1 c2 => r3 ks R hk (fun h => absurd h e) c2⟩
  | @two a b c x h o h3 h4 s t i1 i2 =>
    have hb := (List.getElem?_eq_some_iff.1 h).1
    have hx : l[b + 1] = x := (List.getElem?_eq_some_iff.1 h).2
    have hle := s.le
    have hle2 := t.le
    obtain ⟨ka, ea, aa, r1, r2, r3⟩ := i1
    obtain ⟨kb, eb, ab, q1, q2, q3⟩ := i2
    have ho : 1 ≤ x.f0 ∧ x.f0 ≤ 15 := by omega
    have hdoc : Ev (fun k => whirligigref04_Of.f k (l.map ref159) ((b + 1 : Nat) : Int) (vs.map v151) ss) (if ea = 0 then (if eb = 0 then (if resK x.f0 ka kb = 0 then (0, 20, ((b + 1 : Nat) : Int)) else (resK x.f0 ka kb, 0, 0)) else (0, eb, ab)) else (0, ea, aa)) := by
      refine Ev.succ ?_
      simp only [whirligigref04_Of.f]
      rw [rd159 hb, hx]
      refine Ev.pos (by omega) (Ev.pos (by omega) (Ev.neg (show ¬ x.f0 = 0 by omega) (Ev.neg (show ¬ x.f0 = 16 by omega) (Ev.neg (show ¬ x.f0 = 17 by omega) ?_))))
      refine Ev.bind (a := (ka, ea, aa)) (by rw [show (ref159 x).f3 = (c : Int) from h3]; exact r1) ?_
      have hd : decide ((ref159 x).f0 > 2) = true := decide_eq_true (show x.f0 > 2 by omega)
      by_cases e : ea = 0
      · rw [if_pos e]
        refine Ev.pos e (Ev.succ ?_)
        simp only [whirligigref04_Of.j2]
        rw [hd]
        refine Ev.pos rfl (Ev.bind (a := (kb, eb, ab)) (by rw [show (ref159 x).f4 = (b : Int) from h4]; exact q1) (Ev.succ ?_))
        simp only [whirligigref04_Of.j3]
        by_cases e2 : eb = 0
        · rw [if_pos e2]
          refine Ev.pos e2 (Ev.bind (rResult_ev ho ka kb) ?_)
          by_cases g : resK x.f0 ka kb = 0
          · exact Ev.pos g (Ev.some (if_pos g).symm)
          · exact Ev.neg g (Ev.some (if_neg g).symm)
        · rw [if_neg e2]
          exact Ev.neg e2 (Ev.some rfl)
      · rw [if_neg e]
        refine Ev.neg e (Ev.succ ?_)
        simp only [whirligigref04_Of.j2]
        refine Ev.neg (by decide) (Ev.succ ?_)
        simp only [whirligigref04_Of.j3]
        exact Ev.neg e (Ev.some rfl)
    by_cases e : ea = 0
    · rw [if_pos e] at hdoc
      by_cases e2 : eb = 0
      · rw [if_pos e2] at hdoc
        have cont : ∀ (kd err at_ : Int), (if resK x.f0 ka kb = 0 then ((0 : Int), (20 : Int)) else (resK x.f0 ka kb, 0)) = (kd, err) → ∀ (ks : List Int) (R : Int × Int), ks.length = l.length →
          (err = 0 → ∀ ks' : List Int, ks'.length = l.length → (∀ j, j < a → ks'.getD j 0 = ks.getD j 0) → ks'.getD (b + 1) 0 = kd → Ev (fun k => kind_Of.l0 k l ks' l (l.length : Int) ((b + 1 + 1 : Nat) : Int) vs ss) R) →
          (err ≠ 0 → R = (0, err)) → Ev (fun k => kind_Of.l0 k l ks l (l.length : Int) (a : Int) vs ss) R := fun kd err at_ hke ks R hk c1 c2 => by
            refine r3 ks R hk (fun _ ks1 k1 k2 k3 => q3 ks1 R k1 (fun _ ks2 m1 m2 m3 => ?_) (fun h => absurd e2 h)) (fun h => absurd e h)
            have hn := node_op (vs := vs) (ss := ss) (ks := ks2) ho h3 h4 (by omega) (by omega)
            rw [m3, m2 c (by omega), k3, hke] at hn
            refine kind_step hl h m1 hn (fun e0 => c1 e0 _ (by simp [m1]) (fun j hj => ?_) ?_) c2
            · rw [getD_set _ _ _ _ (by omega), if_neg (by omega), m2 j (by omega), k2 j hj]
            · rw [getD_set _ _ _ _ (by omega), if_pos rfl]
        by_cases g : resK x.f0 ka kb = 0
        · rw [if_pos g] at hdoc
          exact ⟨0, 20, _, hdoc, fun _ => rfl, cont 0 20 0 (if_pos g)⟩
        · rw [if_neg g] at hdoc
          exact ⟨_, 0, _, hdoc, fun h => absurd rfl h, cont _ 0 0 (if_neg g)⟩
      · rw [if_neg e2] at hdoc
        exact ⟨0, eb, ab, hdoc, fun _ => rfl, fun ks R hk c1 c2 => r3 ks R hk (fun _ ks1 k1 k2 k3 => q3 ks1 R k1 (fun h => absurd h e2) c2) (fun h => absurd e h)⟩
    · rw [if_neg e] at hdoc
      exact ⟨0, ea, aa, hdoc, fun _ => rfl, fun ks R hk c1 c2 => r3 ks R hk (fun h => absurd h e) c2⟩
theorem Of_ev (g : GoodE l) (hvs : vs.length ≤ 1000) (hss : ss.length ≤ 1000) : ∃ kd err at_, Ev (fun k => whirligigref04_Of.f k (l.map ref159) ((l.length : Int) - 1) (vs.map v151) ss) (kd, err, at_) ∧ (err ≠ 0 → kd = 0) ∧ Ev (fun k => kind_Of.f k l vs ss) (kd, err) := by
  have h0 := g.ne
  have h1 := g.le
  obtain ⟨kd, err, at_, r1, r2, r3⟩ := kind_seg (vs := vs) (ss := ss) (by omega) hvs hss g.ok g.seg
  refine ⟨kd, err, at_, by rw [show (l.length : Int) - 1 = ((l.length - 1 : Nat) : Int) by omega]; exact r1, r2, ?_⟩
  unfold kind_Of.f
  refine Ev.bind (right_good g) (Ev.pos rfl (Ev.pos (by omega) (Ev.pos (by omega) ?_)))
  refine r3 _ _ (by simp) (fun e ks' k1 _ k3 => ?_) (fun e => by rw [r2 e])
  refine Ev.succ ?_
  simp only [kind_Of.l0]
  rw [wrap_at (x := (l.length : Int) - 1) (by omega) (by omega), show (l.length : Int) - 1 = ((l.length - 1 : Nat) : Int) by omega, rdI, k3, e]
  exact Ev.neg (by omega) (Ev.pos (by omega) (Ev.pos (by omega) (Ev.some rfl)))
end
end Go.Proofs.YtbngfhlciebeeaaDoor.Sp
end
