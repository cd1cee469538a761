/- Printed and hand-written steps towards the row (TreePlays), those that it reaches. -/
import Derived.Test.YtbngfhlciebeeaaDoorTreePlaysG5
import Derived.Test.YtbngfhlciebeeaaDoorTreePlaysG6
import Derived.Test.YtbngfhlciebeeaaDoorTreePlaysG16
import Derived.Test.YtbngfhlciebeeaaDoorTreePlaysG4
section
namespace Go.Proofs.YtbngfhlciebeeaaDoor.Sp
set_option linter.unusedVariables false
set_option linter.unusedSimpArgs false
open Go.RowKit Go.Proofs.YtbngfhlciebeeaaDoor.L Go.Proofs.YtbngfhlciebeeaaDoorW.PrintWords
def eqI (x y : S45) : Bool := (x.f0 == y.f0) && ((x.f1 == y.f1) && ((x.f2.toList == y.f2.toList) && (x.f3 == y.f3)))
theorem eqI_iff {x y : S45} : eqI x y = true ↔ x = y := by
  unfold eqI
  rw [ByteArray.toList_eq, ByteArray.toList_eq]
  constructor
  · intro h
    simp only [Bool.and_eq_true, beq_iff_eq] at h
    obtain ⟨h0, h1, h2, h3⟩ := h
    cases x; cases y
    simp only at h0 h1 h2 h3
    subst h0 h1 h3
    rw [ext_bytes h2]
  · rintro rfl
    simp
def eqL : List S45 → List S45 → Bool
  | [], [] => true
  | x :: xs, y :: ys => eqI x y && eqL xs ys
  | _, _ => false
theorem eqL_iff : ∀ {xs ys : List S45}, eqL xs ys = true ↔ xs = ys
  | [], [] => by simp [eqL]
  | [], y :: ys => by simp [eqL]
  | x :: xs, [] => by simp [eqL]
  | x :: xs, y :: ys => by
    simp only [eqL, Bool.and_eq_true, List.cons.injEq]
    rw [eqI_iff, eqL_iff]
theorem eqL_len {xs ys : List S45} (h : xs.length ≠ ys.length) : eqL xs ys = false := by
  cases hx : eqL xs ys with
  | false => rfl
  | true => exact absurd (congrArg List.length (eqL_iff.1 hx)) h
theorem equal_l (xs ys : List S45) (hn : xs.length ≤ 1000000) (hl : xs.length = ys.length) (d : Nat) : ∀ j, j ≤ xs.length → xs.length - j = d →
    Ev (fun k => tree_Input.l0 k xs ys (xs.length : Int) (j : Int)) (eqL (xs.drop j) (ys.drop j)) := by
  induction d with
  | zero =>
    intro j hj hd
    refine Ev.succ ?_
    simp only [tree_Input.l0]
    refine Ev.neg (by omega) (Ev.some ?_)
    rw [List.drop_eq_nil_of_le (by omega), List.drop_eq_nil_of_le (by omega)]; rfl
  | succ d ih =>
    intro j hj hd
    have hj1 : j < xs.length := by omega
    have hj2 : j < ys.length := by omega
    rw [List.drop_eq_getElem_cons hj1, List.drop_eq_getElem_cons hj2]
    simp only [eqL]
    refine Ev.succ ?_
    simp only [tree_Input.l0]
    rw [rd45 hj1, rd45 hj2, wrap_at (by omega) (by omega)]
    refine Ev.pos (by omega) (Ev.pos (by omega) (Ev.pos (by omega) (Ev.pos (by omega) ?_)))
    have hc : (!((xs[j].f0) == (ys[j].f0)) || (!((xs[j].f1) == (ys[j].f1)) || (!(((xs[j].f2).toList) == ((ys[j].f2).toList)) || (!((xs[j].f3) == (ys[j].f3)))))) = !(eqI xs[j] ys[j]) := by
      unfold eqI
      simp only [Bool.not_and]
    rw [hc]
    cases he : eqI xs[j] ys[j] with
    | false => exact Ev.pos rfl (Ev.some rfl)
    | true =>
      refine Ev.neg (by decide) ?_
      rw [Bool.true_and]
      exact ih (j + 1) (by omega) (by omega)
theorem equal_ev (xs ys : List S45) (hn : xs.length ≤ 1000000) : Ev (fun k => tree_Input.f k xs ys) (eqL xs ys) := by
  unfold tree_Input.f
  by_cases h : xs.length = ys.length
  · exact Ev.pos (by omega) (equal_l xs ys hn h _ 0 (by omega) rfl)
  · exact Ev.neg (by omega) (Ev.some (eqL_len h).symm)
def eqJ (x y : S47) : Bool := (x.f0 == y.f0) && ((x.f1 == y.f1) && ((x.f2.toList == y.f2.toList) && (x.f3 == y.f3)))
theorem eqJ_iff {x y : S47} : eqJ x y = true ↔ x = y := by
  unfold eqJ
  rw [ByteArray.toList_eq, ByteArray.toList_eq]
  constructor
  · intro h
    simp only [Bool.and_eq_true, beq_iff_eq] at h
    obtain ⟨h0, h1, h2, h3⟩ := h
    cases x; cases y
    simp only at h0 h1 h2 h3
    subst h0 h1 h3
    rw [ext_bytes h2]
  · rintro rfl
    simp
def cp : List S47 → List S47 → Nat
  | x :: xs, y :: ys => if eqJ x y = true then cp xs ys + 1 else 0
  | _, _ => 0
theorem cp_ge : ∀ (u v : List S47) (a : Nat), a ≤ u.length → a ≤ v.length → (a ≤ cp u v ↔ u.take a = v.take a)
  | u, v, 0, _, _ => by simp
  | [], v, a + 1, h, _ => by simp at h
  | x :: u, [], a + 1, _, h => by simp at h
  | x :: u, y :: v, a + 1, h1, h2 => by
    have ih := cp_ge u v a (by simpa using h1) (by simpa using h2)
    simp only [cp, List.take_succ_cons, List.cons.injEq]
    by_cases he : eqJ x y = true
    · rw [if_pos he, ← ih]
      constructor
      · intro h; exact ⟨eqJ_iff.1 he, by omega⟩
      · rintro ⟨_, h⟩; omega
    · rw [if_neg he]
      constructor
      · intro h; omega
      · rintro ⟨h, _⟩; exact absurd (eqJ_iff.2 h) he
theorem common_l (u v : List S47) (hn : u.length ≤ 1000000) (d : Nat) : ∀ j, j ≤ u.length → u.length - j = d →
    Ev (fun k => whirligigref22_Common.l0 k u v (j : Int)) ((j + cp (u.drop j) (v.drop j) : Nat) : Int) := by
  induction d with
  | zero =>
    intro j hj hd
    refine Ev.succ ?_
    simp only [whirligigref22_Common.l0]
    refine Ev.neg (by omega) (Ev.some ?_)
    rw [List.drop_eq_nil_of_le (by omega)]
    simp [cp]
  | succ d ih =>
    intro j hj hd
    have hj1 : j < u.length := by omega
    refine Ev.succ ?_
    simp only [whirligigref22_Common.l0]
    refine Ev.pos (by omega) ?_
    by_cases h2 : j < v.length
    · refine Ev.pos (by omega) (Ev.pos (by omega) ?_)
      rw [rd47 hj1, rd47 h2, wrap_at (by omega) (by omega), List.drop_eq_getElem_cons hj1, List.drop_eq_getElem_cons h2]
      simp only [cp]
      have hc : (((u[j]).f0) == ((v[j]).f0) && (((u[j]).f1) == ((v[j]).f1) && ((((u[j]).f2).toList) == (((v[j]).f2).toList) && (((u[j]).f3) == ((v[j]).f3))))) = eqJ u[j] v[j] := rfl
      rw [hc]
      by_cases he : eqJ u[j] v[j] = true
      · refine Ev.pos he ?_
        rw [if_pos he, show j + (cp (u.drop (j + 1)) (v.drop (j + 1)) + 1) = j + 1 + cp (u.drop (j + 1)) (v.drop (j + 1)) from by omega]
        exact ih (j + 1) (by omega) (by omega)
      · refine Ev.neg he (Ev.some ?_)
        rw [if_neg he, Nat.add_zero]
    · refine Ev.neg (by omega) (Ev.some ?_)
      rw [List.drop_eq_nil_of_le (show v.length ≤ j by omega)]
      cases u.drop j <;> simp [cp]
theorem gen_nil : ∀ (n m : Nat), gen m n [] = List.replicate n z47
  | 0, m => by simp [gen]
  | n + 1, m => by simp [gen, gen_nil n, List.replicate_succ]
theorem rising_take {len : Int} : ∀ (xs : List S45) (last : Int) (j : Nat), rising len last xs = true → rising len last (xs.take j) = true
  | [], _, j, _ => by simp [rising]
  | x :: xs, last, 0, h => by simp [rising]
  | x :: xs, last, j + 1, h => by
    obtain ⟨h0, h1, h2, h3⟩ := rising_cons.1 h
    rw [List.take_succ_cons]
    exact rising_cons.2 ⟨h0, h1, h2, rising_take xs x.f0 j h3⟩
theorem rising_snoc {len : Int} : ∀ (xs : List S45) (last : Int) (j : Nat) (hj : j < xs.length), rising len last xs = true → ∀ y ∈ xs.take j, y.f0 < xs[j].f0
  | [], _, j, hj, _ => by simp at hj
  | x :: xs, last, 0, hj, h => by simp
  | x :: xs, last, j + 1, hj, h => by
    obtain ⟨h0, h1, h2, h3⟩ := rising_cons.1 h
    intro y hy
    rw [List.take_succ_cons] at hy
    have hj' : j < xs.length := by simpa using hj
    have hx : (x :: xs)[j + 1] = xs[j] := List.getElem_cons_succ ..
    rw [hx]
    rcases List.mem_cons.1 hy with rfl | hy
    · exact (rising_mem h3 _ (List.getElem_mem hj')).2.1
    · exact rising_snoc xs x.f0 j hj' h3 y hy
theorem gen_set {len : Int} {n : Nat} {xs : List S45} {j : Nat} (hj : j < xs.length) (h : rising len (-1) xs = true) (hn : len = (n : Int)) :
    (gen 0 n (xs.take j)).set xs[j].f0.toNat (i47 xs[j]) = gen 0 n (xs.take (j + 1)) := by
  have hm := rising_mem h _ (List.getElem_mem hj)
  have hlt := rising_snoc xs (-1) j hj h
  apply List.ext_getElem?
  intro i
  by_cases hi : i < n
  · rw [gen_at n 0 (xs.take (j + 1)) (-1) (rising_take _ _ _ h) (by omega) i hi, List.take_succ_eq_append_getElem hj, List.find?_append, Nat.zero_add]
    by_cases he : xs[j].f0 = (i : Int)
    · have h0 : (xs.take j).find? (fun x => x.f0 == (i : Int)) = none := by
        rw [List.find?_eq_none]
        intro y hy
        have := hlt y hy
        simp
        omega
      rw [h0, show xs[j].f0.toNat = i from by omega, List.getElem?_set_self (by rw [gen_length]; exact hi)]
      simp [he]
    · rw [List.getElem?_set_ne (by omega), gen_at n 0 (xs.take j) (-1) (rising_take _ _ _ h) (by omega) i hi, Nat.zero_add]
      have h1 : List.find? (fun x : S45 => x.f0 == (i : Int)) [xs[j]] = none := by simp [he]
      rw [h1, Option.or_none]
  · rw [List.getElem?_eq_none (by rw [List.length_set, gen_length]; omega), List.getElem?_eq_none (by rw [gen_length]; omega)]
theorem moves_l (xs : List S45) (hn : xs.length ≤ 1000000) (a b len : Int) (n : Nat) (hlen : len = (n : Int)) (h : rising len (-1) xs = true) (d : Nat) : ∀ j, j ≤ xs.length → xs.length - j = d →
    Ev (fun k => whirligigref22_Moves.l0 k (gen 0 n (xs.take j)) (j : Int) a b len (xs.map i47)) (gen 0 n xs) := by
  have hm : (xs.map i47).length = xs.length := List.length_map ..
  induction d with
  | zero =>
    intro j hj hd
    refine Ev.succ ?_
    simp only [whirligigref22_Moves.l0]
    refine Ev.neg (by omega) (Ev.some ?_)
    rw [List.take_of_length_le (by omega)]
  | succ d ih =>
    intro j hj hd
    have hjl : j < xs.length := by omega
    have e1 : rd_T47 (xs.map i47) (j : Int) = i47 xs[j] := by rw [rd47 (by omega), List.getElem_map]
    have hr := rising_mem h _ (List.getElem_mem hjl)
    have hf : (i47 xs[j]).f0 = xs[j].f0 := rfl
    have hg := gen_length n 0 (xs.take j)
    refine Ev.succ ?_
    simp only [whirligigref22_Moves.l0]
    rw [e1, wrap_at (by omega) (by omega)]
    refine Ev.pos (by omega) (Ev.pos (by omega) (Ev.pos (by rw [hf]; omega) (Ev.pos (by rw [hf]; omega) ?_)))
    have h2 := ih (j + 1) (by omega) (by omega)
    rw [← gen_set hjl h hlen] at h2
    exact h2
theorem moves_ev (xs : List S45) (hn : xs.length ≤ 1000000) (a b len : Int) (h : goodB len xs = true) : Ev (fun k => whirligigref22_Moves.f k a b len (xs.map i47)) (gen 0 len.toNat xs) := by
  unfold goodB at h
  simp only [Bool.and_eq_true, decide_eq_true_eq] at h
  obtain ⟨h0, h1, h2⟩ := h
  unfold whirligigref22_Moves.f
  refine Ev.pos h0 (Ev.pos (by omega) ?_)
  rw [← gen_nil len.toNat 0]
  exact moves_l xs hn a b len len.toNat (by omega) h2 _ 0 (by omega) rfl
theorem common_ev (xs ys : List S45) (hx : xs.length ≤ 1000000) (hy : ys.length ≤ 1000000) (a b len a' b' len' : Int) (h : goodB len xs = true) (h' : goodB len' ys = true) :
    Ev (fun k => whirligigref22_Common.f k a b len (xs.map i47) a' b' len' (ys.map i47)) ((cp (gen 0 len.toNat xs) (gen 0 len'.toNat ys) : Nat) : Int) := by
  have hg := h
  unfold goodB at hg
  simp only [Bool.and_eq_true, decide_eq_true_eq] at hg
  unfold whirligigref22_Common.f
  refine Ev.bind (moves_ev xs hx a b len h) (Ev.bind (moves_ev ys hy a' b' len' h') ?_)
  have h2 := common_l (gen 0 len.toNat xs) (gen 0 len'.toNat ys) (by rw [gen_length]; omega) _ 0 (by omega) rfl
  simpa using h2
end Go.Proofs.YtbngfhlciebeeaaDoor.Sp
end
section
namespace Go.Proofs.YtbngfhlciebeeaaDoor.L
open Go.RowKit Go.Proofs.YtbngfhlciebeeaaDoorW.PrintWords Go.Proofs.YtbngfhlciebeeaaDoorW.PrintLast Go.Proofs.YtbngfhlciebeeaaDoorW.PrintMore
attribute [local go_sem] max2_int min2_int max_two min_two max_three min_three max_four min_four   -- for this text's walks alone
set_option linter.unusedVariables false
set_option linter.unusedSimpArgs false
def tree_Tree_forked.j0 : Nat → List (S43) → Int → Bool → Int → Int → Int → List (S45) → Option (Bool)
 | 0, _, _, _, _, _, _, _ => none
 | k + 1, x0, x1, x43, x344000, x344001, x344002, x344003 => if x43 = true then (some false) else ((tree_Tree_Input.f x0 x1 x344001).bind fun bt345 => (if bt345.2.2.2.2 = true then ((tree_Branch_ahead.f k x344000 x344001 x344002 x344003 x344001).bind fun t351 => (if 0 ≤ x344000 then (if x344000 < (x0.length : Int) then ((tree_Branch_ahead.f k ((rd_T43 x0 x344000).f0) ((rd_T43 x0 x344000).f1) ((rd_T43 x0 x344000).f2) ((rd_T43 x0 x344000).f3) x344001).bind fun t355 => ((tree_Input.f k t351 t355).bind fun t358 => (some t358))) else (none)) else (none))) else (some false)))
def tree_Tree_forked.f (k : Nat) (l0 : List (S43)) (a1 : Int) : Option (Bool) := if 0 ≤ a1 then (if a1 < (l0.length : Int) then (if ((rd_T43 l0 a1).f0) < 0 then (tree_Tree_forked.j0 k l0 a1 true ((rd_T43 l0 a1).f0) ((rd_T43 l0 a1).f1) ((rd_T43 l0 a1).f2) ((rd_T43 l0 a1).f3)) else (if ((rd_T43 l0 a1).f0) ≥ a1 then (tree_Tree_forked.j0 k l0 a1 true ((rd_T43 l0 a1).f0) ((rd_T43 l0 a1).f1) ((rd_T43 l0 a1).f2) ((rd_T43 l0 a1).f3)) else (if ((rd_T43 l0 a1).f1) < 0 then (tree_Tree_forked.j0 k l0 a1 true ((rd_T43 l0 a1).f0) ((rd_T43 l0 a1).f1) ((rd_T43 l0 a1).f2) ((rd_T43 l0 a1).f3)) else (if 0 ≤ ((rd_T43 l0 a1).f0) then (if ((rd_T43 l0 a1).f0) < (l0.length : Int) then (if ((rd_T43 l0 a1).f1) ≥ ((rd_T43 l0 ((rd_T43 l0 a1).f0)).f2) then (tree_Tree_forked.j0 k l0 a1 true ((rd_T43 l0 a1).f0) ((rd_T43 l0 a1).f1) ((rd_T43 l0 a1).f2) ((rd_T43 l0 a1).f3)) else (tree_Tree_forked.j0 k l0 a1 (decide (((rd_T43 l0 a1).f2) ≤ ((rd_T43 l0 a1).f1))) ((rd_T43 l0 a1).f0) ((rd_T43 l0 a1).f1) ((rd_T43 l0 a1).f2) ((rd_T43 l0 a1).f3))) else (none)) else (none))))) else (none)) else (none)
def tree_Tree_forked.T2 : Bool × List (List Nat × List Nat) := (true, [([], []), ([0], [0]), ([1], [1]), ([2], [2]), ([3], [3]), ([4, 3], [3, 4]), ([3], [3]), ([5, 6, 3], [3, 5, 6]), ([3, 7], [3, 7]), ([8, 3], [8]), ([9], [9]), ([10, 9], [9, 10]), ([11, 9], [9, 11]), ([9, 12], [9, 12]), ([13, 9], [13]), ([14], [14]), ([15, 14], [14, 15]), ([14], [14]), ([14], [14]), ([18, 14], [14, 18]), ([17, 19, 14], [14, 17, 19]), ([20, 14], [14, 20]), ([21, 14], [14, 21]), ([16, 22, 14], [14, 16, 22]), ([14, 23], [14, 23]), ([24, 14], [24]), ([25], [25]), ([26, 25], [25, 26]), ([25], [25]), ([28, 25], [25, 28]), ([27, 29, 25], [25, 27, 29]), ([25, 30], [25, 30])])
def tree_Tree_forked.B2 : List Nat := [0, 1, 3, 7, 15, 31, 15, 127, 255, 511, 1023, 2047, 4095, 8191, 16383, 32767, 65535, 32767, 32767, 294911, 950271, 1998847, 4095999, 8388607, 16777215, 33554431, 67108863, 134217727, 67108863, 335544319, 1073741823, 2147483647]
theorem tree_Tree_forked.tab2 : rtab .any (opsOf Tryd.f78 2) = tree_Tree_forked.T2 := by kernel_rfl
theorem tree_Tree_forked.bits2 : waitsOk tree_Tree_forked.T2.2 tree_Tree_forked.B2 = true := by kernel_rfl
def tree_Tree_forked.T5 : Bool × List (List Nat × List Nat) := (true, [([], []), ([0], [0]), ([1], [1]), ([1], [1]), ([3, 1], [1, 3]), ([2, 4, 1, 1], [1, 2, 4]), ([1], [1]), ([1], [1]), ([7, 1], [1, 7]), ([6, 8, 1], [1, 6, 8]), ([9, 1], [1, 9]), ([1], [1]), ([11, 1], [1, 11]), ([10, 12, 5, 1], [1, 10, 12]), ([5, 13, 13, 1], [1, 5, 13]), ([1, 14], [1, 14]), ([15, 14, 0, 1, 2, 3, 4, 5, 6, 7, 8, 9, 10, 11, 12, 13, 14, 15], [15])])
def tree_Tree_forked.B5 : List Nat := [0, 1, 3, 3, 11, 31, 3, 3, 131, 451, 963, 3, 2051, 8191, 16383, 32767, 65535]
theorem tree_Tree_forked.tab5 : rtab .any (opsOf Tryd.f78 5) = tree_Tree_forked.T5 := by kernel_rfl
theorem tree_Tree_forked.bits5 : waitsOk tree_Tree_forked.T5.2 tree_Tree_forked.B5 = true := by kernel_rfl
set_option maxHeartbeats 8000000 in
set_option maxRecDepth 100000 in
theorem tree_Tree_forked.calls (k : Nat) (A0 : Option Addr) (c0 : Nat) (l0 : List (S43)) (a1 : Int) (r : Bool) (w : World) (hr0 : Kd.C k43 w A0 l0.length l0) (hc0 : l0.length ≤ c0) (h : tree_Tree_forked.f k l0 a1 = some r) :
  Calls Tryd.prog 78 #[.slice A0 l0.length c0, .int .i64 a1] w fun e w' => e = .returned (.bool r) ∧ Below w.heap.size w w' := by
 have hu43 := Tryd.underlying43
 have hu45 := Tryd.underlying45
 have HR0 := Aside0.mk hr0
 have HC0 := Aside0.mk hc0
 clear hr0 hc0
 have HB := Aside0.mk (Below.refl w.heap.size w)
 have H : (if 0 ≤ a1 then (if a1 < (l0.length : Int) then (if ((rd_T43 l0 a1).f0) < 0 then (tree_Tree_forked.j0 k l0 a1 true ((rd_T43 l0 a1).f0) ((rd_T43 l0 a1).f1) ((rd_T43 l0 a1).f2) ((rd_T43 l0 a1).f3)) else (if ((rd_T43 l0 a1).f0) ≥ a1 then (tree_Tree_forked.j0 k l0 a1 true ((rd_T43 l0 a1).f0) ((rd_T43 l0 a1).f1) ((rd_T43 l0 a1).f2) ((rd_T43 l0 a1).f3)) else (if ((rd_T43 l0 a1).f1) < 0 then (tree_Tree_forked.j0 k l0 a1 true ((rd_T43 l0 a1).f0) ((rd_T43 l0 a1).f1) ((rd_T43 l0 a1).f2) ((rd_T43 l0 a1).f3)) else (if 0 ≤ ((rd_T43 l0 a1).f0) then (if ((rd_T43 l0 a1).f0) < (l0.length : Int) then (if ((rd_T43 l0 a1).f1) ≥ ((rd_T43 l0 ((rd_T43 l0 a1).f0)).f2) then (tree_Tree_forked.j0 k l0 a1 true ((rd_T43 l0 a1).f0) ((rd_T43 l0 a1).f1) ((rd_T43 l0 a1).f2) ((rd_T43 l0 a1).f3)) else (tree_Tree_forked.j0 k l0 a1 (decide (((rd_T43 l0 a1).f2) ≤ ((rd_T43 l0 a1).f1))) ((rd_T43 l0 a1).f0) ((rd_T43 l0 a1).f1) ((rd_T43 l0 a1).f2) ((rd_T43 l0 a1).f3))) else (none)) else (none))))) else (none)) else (none)) = some r := h
 clear h
 by_cases c3 : 0 ≤ a1
 ·rw [if_pos c3] at H
  have c3b0 := decide_eq_true c3
  clear c3
  replace H := iD H
  rcases H with ⟨c4b0, H⟩ | ⟨c4b0, H⟩
  ·have HC5 := Aside0.mk H
   clear H
   have p342 : 0 ≤ (a1 : Int) := qD
   have q342 : a1 < (l0.length : Int) := qD
   obtain ⟨ad342, A342_3, c342_3, e342, hx342_0, hx342_1, hx342_2, hx342_3, hl342_3, hi342_3⟩ := at_T43 HR0.out a1 p342 q342
   cases e342
   have HR342_3 := Aside0.mk hi342_3
   have HC342_3 := Aside0.mk hl342_3
   clear hi342_3 hl342_3
   replace p342 := eq_true p342
   replace q342 := eq_true q342
   go_enter Tryd.func78, Tryd.ntmps78
   go_upto_region 2 with (first | ((with_reducible refine gd 5 rfl ?_); refine bxx 5 #[.int .i64 0, .int .i64 0, .int .i64 0, .slice none 0 0] 43 ?_; intro gb343 w6 BK343 GW343 HB; obtain ⟨_, _, _, _, _, _, _, _⟩ := cells4 BK343.out))
   (try simp only [Act.put, List.setIfInBounds_toArray, List.set_cons_zero, List.set_cons_succ])
   go_cut [43] (fun v43 wc => ∃ (kq : Nat) (x43_4 : Bool), v43 = .bool x43_4 ∧ Aside0 (tree_Tree_forked.j0 kq l0 a1 x43_4 ((rd_T43 l0 a1).f0) ((rd_T43 l0 a1).f1) ((rd_T43 l0 a1).f2) ((rd_T43 l0 a1).f3) = some r) ∧ Aside0 (kq ≤ k) ∧ Aside0 (wc.heap[gb343]? = some (.cells #[.int .i64 ((rd_T43 l0 a1).f0), .int .i64 ((rd_T43 l0 a1).f1), .int .i64 ((rd_T43 l0 a1).f2), (.slice A342_3 ((rd_T43 l0 a1).f3).length c342_3)] 43 (0, 0))) ∧ Aside0 (Below w.heap.size w wc))
   case first =>
    have H := HC5.out
    clear HC5
    replace H := iD H
    rcases H with ⟨c8b0, H⟩ | ⟨c8b0, H⟩
    ·(first | rw [c8b0] | (simp only [i64_w, i32_w]; rw [c8b0]) | skip); have H' := Aside0.mk H; clear H
     try go_wp2
     have n0_ : Aside0 (((((w6.setCell ⟨gb343, 0, none⟩ (.int .i64 ((rd_T43 l0 a1).f0))).setCell ⟨gb343, 1, none⟩ (.int .i64 ((rd_T43 l0 a1).f1))).setCell ⟨gb343, 2, none⟩ (.int .i64 ((rd_T43 l0 a1).f2))).setCell ⟨gb343, 3, none⟩ (.slice A342_3 ((rd_T43 l0 a1).f3).length c342_3)).heap[gb343]? = some (.cells #[.int .i64 ((rd_T43 l0 a1).f0), .int .i64 ((rd_T43 l0 a1).f1), .int .i64 ((rd_T43 l0 a1).f2), .slice A342_3 ((rd_T43 l0 a1).f3).length c342_3] 43 (0, 0))) := ⟨qP⟩; have n1_ : Aside0 (Below w.heap.size w ((((w6.setCell ⟨gb343, 0, none⟩ (.int .i64 ((rd_T43 l0 a1).f0))).setCell ⟨gb343, 1, none⟩ (.int .i64 ((rd_T43 l0 a1).f1))).setCell ⟨gb343, 2, none⟩ (.int .i64 ((rd_T43 l0 a1).f2))).setCell ⟨gb343, 3, none⟩ (.slice A342_3 ((rd_T43 l0 a1).f3).length c342_3))) := ⟨qB⟩; (try clear BK343); (try clear HB)
     generalize ((((w6.setCell ⟨gb343, 0, none⟩ (.int .i64 ((rd_T43 l0 a1).f0))).setCell ⟨gb343, 1, none⟩ (.int .i64 ((rd_T43 l0 a1).f1))).setCell ⟨gb343, 2, none⟩ (.int .i64 ((rd_T43 l0 a1).f2))).setCell ⟨gb343, 3, none⟩ (.slice A342_3 ((rd_T43 l0 a1).f3).length c342_3)) = w9 at n0_ n1_ ⊢
     have BK343 := n0_; have HB := n1_; clear n0_ n1_; replace BK343 := Aside0.mk (blk_drew BK343.out); replace HB := Aside0.mk (below_drew1 HB.out); refine start_ (n := 32) (S := fun w' => w'.cell? ⟨gb343, 0, none⟩ = some (.int .i64 ((rd_T43 l0 a1).f0)) ∧ w'.cell? ⟨gb343, 1, none⟩ = some (.int .i64 ((rd_T43 l0 a1).f1)) ∧ w'.cell? ⟨gb343, 2, none⟩ = some (.int .i64 ((rd_T43 l0 a1).f2)) ∧ w'.cell? ⟨gb343, 3, none⟩ = some (.slice A342_3 ((rd_T43 l0 a1).f3).length c342_3)) (ds := []) _ (by kernel_rfl) rfl (fls 32) ⟨(blk_cell BK343.out 0).trans rfl, (blk_cell BK343.out 1).trans rfl, (blk_cell BK343.out 2).trans rfl, (blk_cell BK343.out 3).trans rfl⟩ (fun hHeld => ?_); refine with_tabW tree_Tree_forked.tab2 tree_Tree_forked.bits2 (fun HT_ HW_ => ?_)
     generalize w9.drew = w10 at BK343 HB hHeld ⊢
     refine pu 0 12 ?_; refine tk 1 13 ?_; refine pu 2 14 ?_; refine pu 3 15 ?_; refine po 4 16 ?_; refine po 5 17 ?_; refine po 6 18 ?_; refine po 7 19 ?_; refine pu 8 20 ?_; refine pu 9 21 ?_; refine po 10 22 ?_; refine po 11 23 ?_; refine po 12 24 ?_; refine pu 13 25 ?_; refine pu 14 26 ?_; refine po 15 27 ?_; refine po 16 28 ?_; refine po 17 29 ?_; refine po 18 30 ?_; refine po 19 31 ?_; refine po 20 32 ?_; refine po 21 33 ?_; refine po 22 34 ?_; refine po 23 35 ?_; refine pu 24 36 ?_; refine pu 25 37 ?_; refine po 26 38 ?_; refine po 27 39 ?_; refine po 28 40 ?_; refine po 29 41 ?_; refine po 30 42 ?_; refine pu 31 43 ?_; refine done_ (done_of HT_.out (by kernel_rfl)) ?_
     try go_wp2
     go_meet
     case rel => exact ⟨_, (true), qE, H', ⟨by first | omega | exact Nat.le_refl _⟩, ⟨qK⟩, ⟨qB⟩⟩
    (first | rw [c8b0] | (simp only [i64_w, i32_w]; rw [c8b0]) | skip)
    replace H := iD H
    rcases H with ⟨c11b0, H⟩ | ⟨c11b0, H⟩
    ·have H' := Aside0.mk H; clear H
     try go_wp2
     have n0_ : Aside0 (((((w6.setCell ⟨gb343, 0, none⟩ (.int .i64 ((rd_T43 l0 a1).f0))).setCell ⟨gb343, 1, none⟩ (.int .i64 ((rd_T43 l0 a1).f1))).setCell ⟨gb343, 2, none⟩ (.int .i64 ((rd_T43 l0 a1).f2))).setCell ⟨gb343, 3, none⟩ (.slice A342_3 ((rd_T43 l0 a1).f3).length c342_3)).heap[gb343]? = some (.cells #[.int .i64 ((rd_T43 l0 a1).f0), .int .i64 ((rd_T43 l0 a1).f1), .int .i64 ((rd_T43 l0 a1).f2), .slice A342_3 ((rd_T43 l0 a1).f3).length c342_3] 43 (0, 0))) := ⟨qP⟩; have n1_ : Aside0 (Below w.heap.size w ((((w6.setCell ⟨gb343, 0, none⟩ (.int .i64 ((rd_T43 l0 a1).f0))).setCell ⟨gb343, 1, none⟩ (.int .i64 ((rd_T43 l0 a1).f1))).setCell ⟨gb343, 2, none⟩ (.int .i64 ((rd_T43 l0 a1).f2))).setCell ⟨gb343, 3, none⟩ (.slice A342_3 ((rd_T43 l0 a1).f3).length c342_3))) := ⟨qB⟩; (try clear BK343); (try clear HB)
     generalize ((((w6.setCell ⟨gb343, 0, none⟩ (.int .i64 ((rd_T43 l0 a1).f0))).setCell ⟨gb343, 1, none⟩ (.int .i64 ((rd_T43 l0 a1).f1))).setCell ⟨gb343, 2, none⟩ (.int .i64 ((rd_T43 l0 a1).f2))).setCell ⟨gb343, 3, none⟩ (.slice A342_3 ((rd_T43 l0 a1).f3).length c342_3)) = w12 at n0_ n1_ ⊢
     have BK343 := n0_; have HB := n1_; clear n0_ n1_; replace BK343 := Aside0.mk (blk_drew BK343.out); replace HB := Aside0.mk (below_drew1 HB.out); refine start_ (n := 32) (S := fun w' => w'.cell? ⟨gb343, 0, none⟩ = some (.int .i64 ((rd_T43 l0 a1).f0)) ∧ w'.cell? ⟨gb343, 1, none⟩ = some (.int .i64 ((rd_T43 l0 a1).f1)) ∧ w'.cell? ⟨gb343, 2, none⟩ = some (.int .i64 ((rd_T43 l0 a1).f2)) ∧ w'.cell? ⟨gb343, 3, none⟩ = some (.slice A342_3 ((rd_T43 l0 a1).f3).length c342_3)) (ds := []) _ (by kernel_rfl) rfl (fls 32) ⟨(blk_cell BK343.out 0).trans rfl, (blk_cell BK343.out 1).trans rfl, (blk_cell BK343.out 2).trans rfl, (blk_cell BK343.out 3).trans rfl⟩ (fun hHeld => ?_); refine with_tabW tree_Tree_forked.tab2 tree_Tree_forked.bits2 (fun HT_ HW_ => ?_)
     generalize w12.drew = w13 at BK343 HB hHeld ⊢
     refine pu 0 12 ?_; refine tk 1 13 ?_; refine pu 2 14 ?_; refine pu 3 15 ?_; refine pu 4 16 ?_; refine pu 6 18 ?_; refine tk 5 17 ?_; refine pu 7 19 ?_; refine pu 8 20 ?_; refine pu 9 21 ?_; refine po 10 22 ?_; refine po 11 23 ?_; refine po 12 24 ?_; refine pu 13 25 ?_; refine pu 14 26 ?_; refine po 15 27 ?_; refine po 16 28 ?_; refine po 17 29 ?_; refine po 18 30 ?_; refine po 19 31 ?_; refine po 20 32 ?_; refine po 21 33 ?_; refine po 22 34 ?_; refine po 23 35 ?_; refine pu 24 36 ?_; refine pu 25 37 ?_; refine po 26 38 ?_; refine po 27 39 ?_; refine po 28 40 ?_; refine po 29 41 ?_; refine po 30 42 ?_; refine pu 31 43 ?_; refine done_ (done_of HT_.out (by kernel_rfl)) ?_
     try go_wp2
     go_meet
     case rel => exact ⟨_, (true), qE, H', ⟨by first | omega | exact Nat.le_refl _⟩, ⟨qK⟩, ⟨qB⟩⟩
    by_cases c14 : ((rd_T43 l0 a1).f1) < 0
    ·rw [if_pos c14] at H; have c14b0 := decide_eq_true c14; clear c14; have H' := Aside0.mk H; clear H
     try go_wp2
     have n0_ : Aside0 (((((w6.setCell ⟨gb343, 0, none⟩ (.int .i64 ((rd_T43 l0 a1).f0))).setCell ⟨gb343, 1, none⟩ (.int .i64 ((rd_T43 l0 a1).f1))).setCell ⟨gb343, 2, none⟩ (.int .i64 ((rd_T43 l0 a1).f2))).setCell ⟨gb343, 3, none⟩ (.slice A342_3 ((rd_T43 l0 a1).f3).length c342_3)).heap[gb343]? = some (.cells #[.int .i64 ((rd_T43 l0 a1).f0), .int .i64 ((rd_T43 l0 a1).f1), .int .i64 ((rd_T43 l0 a1).f2), .slice A342_3 ((rd_T43 l0 a1).f3).length c342_3] 43 (0, 0))) := ⟨qP⟩; have n1_ : Aside0 (Below w.heap.size w ((((w6.setCell ⟨gb343, 0, none⟩ (.int .i64 ((rd_T43 l0 a1).f0))).setCell ⟨gb343, 1, none⟩ (.int .i64 ((rd_T43 l0 a1).f1))).setCell ⟨gb343, 2, none⟩ (.int .i64 ((rd_T43 l0 a1).f2))).setCell ⟨gb343, 3, none⟩ (.slice A342_3 ((rd_T43 l0 a1).f3).length c342_3))) := ⟨qB⟩; (try clear BK343); (try clear HB)
     generalize ((((w6.setCell ⟨gb343, 0, none⟩ (.int .i64 ((rd_T43 l0 a1).f0))).setCell ⟨gb343, 1, none⟩ (.int .i64 ((rd_T43 l0 a1).f1))).setCell ⟨gb343, 2, none⟩ (.int .i64 ((rd_T43 l0 a1).f2))).setCell ⟨gb343, 3, none⟩ (.slice A342_3 ((rd_T43 l0 a1).f3).length c342_3)) = w15 at n0_ n1_ ⊢
     have BK343 := n0_; have HB := n1_; clear n0_ n1_; replace BK343 := Aside0.mk (blk_drew BK343.out); replace HB := Aside0.mk (below_drew1 HB.out); refine start_ (n := 32) (S := fun w' => w'.cell? ⟨gb343, 0, none⟩ = some (.int .i64 ((rd_T43 l0 a1).f0)) ∧ w'.cell? ⟨gb343, 1, none⟩ = some (.int .i64 ((rd_T43 l0 a1).f1)) ∧ w'.cell? ⟨gb343, 2, none⟩ = some (.int .i64 ((rd_T43 l0 a1).f2)) ∧ w'.cell? ⟨gb343, 3, none⟩ = some (.slice A342_3 ((rd_T43 l0 a1).f3).length c342_3)) (ds := []) _ (by kernel_rfl) rfl (fls 32) ⟨(blk_cell BK343.out 0).trans rfl, (blk_cell BK343.out 1).trans rfl, (blk_cell BK343.out 2).trans rfl, (blk_cell BK343.out 3).trans rfl⟩ (fun hHeld => ?_); refine with_tabW tree_Tree_forked.tab2 tree_Tree_forked.bits2 (fun HT_ HW_ => ?_)
     generalize w15.drew = w16 at BK343 HB hHeld ⊢
     refine pu 0 12 ?_; refine tk 1 13 ?_; refine pu 2 14 ?_; refine pu 3 15 ?_; refine pu 4 16 ?_; refine pu 6 18 ?_; refine tk 5 17 ?_; refine pu 7 19 ?_; refine pu 8 20 ?_; refine pu 9 21 ?_; refine pu 10 22 ?_; refine tk 11 23 ?_; refine pu 12 24 ?_; refine pu 13 25 ?_; refine pu 14 26 ?_; refine po 15 27 ?_; refine po 16 28 ?_; refine po 17 29 ?_; refine po 18 30 ?_; refine po 19 31 ?_; refine po 20 32 ?_; refine po 21 33 ?_; refine po 22 34 ?_; refine po 23 35 ?_; refine pu 24 36 ?_; refine pu 25 37 ?_; refine po 26 38 ?_; refine po 27 39 ?_; refine po 28 40 ?_; refine po 29 41 ?_; refine po 30 42 ?_; refine pu 31 43 ?_; refine done_ (done_of HT_.out (by kernel_rfl)) ?_
     try go_wp2
     go_meet
     case rel => exact ⟨_, (true), qE, H', ⟨by first | omega | exact Nat.le_refl _⟩, ⟨qK⟩, ⟨qB⟩⟩
    rw [if_neg c14] at H
    have c14b0 := decide_eq_false c14
    clear c14
    replace H := iD H
    rcases H with ⟨c17b0, H⟩ | ⟨c17b0, H⟩
    ·by_cases c18 : ((rd_T43 l0 a1).f0) < (l0.length : Int)
     ·rw [if_pos c18] at H; have c18b0 := decide_eq_true c18; clear c18; replace H := iD H
      rcases H with ⟨c19b0, H⟩ | ⟨c19b0, H⟩
      ·have H' := Aside0.mk H; clear H
       try go_wp2
       have n0_ : Aside0 (((((w6.setCell ⟨gb343, 0, none⟩ (.int .i64 ((rd_T43 l0 a1).f0))).setCell ⟨gb343, 1, none⟩ (.int .i64 ((rd_T43 l0 a1).f1))).setCell ⟨gb343, 2, none⟩ (.int .i64 ((rd_T43 l0 a1).f2))).setCell ⟨gb343, 3, none⟩ (.slice A342_3 ((rd_T43 l0 a1).f3).length c342_3)).heap[gb343]? = some (.cells #[.int .i64 ((rd_T43 l0 a1).f0), .int .i64 ((rd_T43 l0 a1).f1), .int .i64 ((rd_T43 l0 a1).f2), .slice A342_3 ((rd_T43 l0 a1).f3).length c342_3] 43 (0, 0))) := ⟨qP⟩; have n1_ : Aside0 (Below w.heap.size w ((((w6.setCell ⟨gb343, 0, none⟩ (.int .i64 ((rd_T43 l0 a1).f0))).setCell ⟨gb343, 1, none⟩ (.int .i64 ((rd_T43 l0 a1).f1))).setCell ⟨gb343, 2, none⟩ (.int .i64 ((rd_T43 l0 a1).f2))).setCell ⟨gb343, 3, none⟩ (.slice A342_3 ((rd_T43 l0 a1).f3).length c342_3))) := ⟨qB⟩; (try clear BK343); (try clear HB)
       generalize ((((w6.setCell ⟨gb343, 0, none⟩ (.int .i64 ((rd_T43 l0 a1).f0))).setCell ⟨gb343, 1, none⟩ (.int .i64 ((rd_T43 l0 a1).f1))).setCell ⟨gb343, 2, none⟩ (.int .i64 ((rd_T43 l0 a1).f2))).setCell ⟨gb343, 3, none⟩ (.slice A342_3 ((rd_T43 l0 a1).f3).length c342_3)) = w20 at n0_ n1_ ⊢
       have BK343 := n0_; have HB := n1_; clear n0_ n1_; replace BK343 := Aside0.mk (blk_drew BK343.out); replace HB := Aside0.mk (below_drew1 HB.out); have p344 : 0 ≤ (((rd_T43 l0 a1).f0) : Int) := qD; have q344 : ((rd_T43 l0 a1).f0) < (l0.length : Int) := qD; obtain ⟨ad344, A344_3, c344_3, e344, hx344_0, hx344_1, hx344_2, hx344_3, hl344_3, hi344_3⟩ := at_T43 HR0.out ((rd_T43 l0 a1).f0) p344 q344; have hw344_3 := hx344_3; have hw344_2 := hx344_2; have hw344_1 := hx344_1; have hw344_0 := hx344_0; obtain rfl : ad342 = ad344 := (by injection e344); replace hx344_0 := pw_cell_below HB.out hx344_0; replace hx344_1 := pw_cell_below HB.out hx344_1; replace hx344_2 := pw_cell_below HB.out hx344_2; replace hx344_3 := pw_cell_below HB.out hx344_3; have HR344_3 := Aside0.mk hi344_3; have HC344_3 := Aside0.mk hl344_3; clear hi344_3 hl344_3; replace p344 := eq_true p344; replace q344 := eq_true q344
       refine start_ (n := 32) (S := fun w' => w'.cell? ⟨gb343, 0, none⟩ = some (.int .i64 ((rd_T43 l0 a1).f0)) ∧ w'.cell? ⟨gb343, 1, none⟩ = some (.int .i64 ((rd_T43 l0 a1).f1)) ∧ w'.cell? ⟨gb343, 2, none⟩ = some (.int .i64 ((rd_T43 l0 a1).f2)) ∧ w'.cell? ⟨gb343, 3, none⟩ = some (.slice A342_3 ((rd_T43 l0 a1).f3).length c342_3) ∧ w'.cell? (ad342.add ((((rd_T43 l0 a1).f0)).toNat * 4)) = some (.int .i64 ((rd_T43 l0 ((rd_T43 l0 a1).f0)).f0)) ∧ w'.cell? ⟨(ad342.add ((((rd_T43 l0 a1).f0)).toNat * 4)).block, (ad342.add ((((rd_T43 l0 a1).f0)).toNat * 4)).off + 1, none⟩ = some (.int .i64 ((rd_T43 l0 ((rd_T43 l0 a1).f0)).f1)) ∧ w'.cell? ⟨(ad342.add ((((rd_T43 l0 a1).f0)).toNat * 4)).block, (ad342.add ((((rd_T43 l0 a1).f0)).toNat * 4)).off + 2, none⟩ = some (.int .i64 ((rd_T43 l0 ((rd_T43 l0 a1).f0)).f2)) ∧ w'.cell? ⟨(ad342.add ((((rd_T43 l0 a1).f0)).toNat * 4)).block, (ad342.add ((((rd_T43 l0 a1).f0)).toNat * 4)).off + 3, none⟩ = some (.slice A344_3 ((rd_T43 l0 ((rd_T43 l0 a1).f0)).f3).length c344_3)) (ds := []) _ (by kernel_rfl) rfl (fls 32) ⟨(blk_cell BK343.out 0).trans rfl, (blk_cell BK343.out 1).trans rfl, (blk_cell BK343.out 2).trans rfl, (blk_cell BK343.out 3).trans rfl, ((HB.out.cell (World.block_lt_of_cell? w _ hw344_0)).trans hw344_0), ((HB.out.cell (World.block_lt_of_cell? w _ hw344_1)).trans hw344_1), ((HB.out.cell (World.block_lt_of_cell? w _ hw344_2)).trans hw344_2), ((HB.out.cell (World.block_lt_of_cell? w _ hw344_3)).trans hw344_3)⟩ (fun hHeld => ?_); refine with_tabW tree_Tree_forked.tab2 tree_Tree_forked.bits2 (fun HT_ HW_ => ?_)
       generalize w20.drew = w21 at BK343 HB HR344_3 hx344_0 hx344_1 hx344_2 hx344_3 hHeld ⊢
       refine pu 0 12 ?_; refine tk 1 13 ?_; refine pu 2 14 ?_; refine pu 3 15 ?_; refine pu 4 16 ?_; refine pu 6 18 ?_; refine tk 5 17 ?_; refine pu 7 19 ?_; refine pu 8 20 ?_; refine pu 9 21 ?_; refine pu 10 22 ?_; refine tk 11 23 ?_; refine pu 12 24 ?_; refine pu 13 25 ?_; refine pu 14 26 ?_; refine pu 15 27 ?_; refine pu 17 29 ?_; refine pu 18 30 ?_; refine tk 16 28 ?_; refine tk 19 31 ?_; refine pu 20 32 ?_; refine pu 21 33 ?_; refine tk 22 34 ?_; refine pu 23 35 ?_; refine pu 24 36 ?_; refine pu 25 37 ?_; refine po 26 38 ?_; refine po 27 39 ?_; refine po 28 40 ?_; refine po 29 41 ?_; refine po 30 42 ?_; refine pu 31 43 ?_; refine done_ (done_of HT_.out (by kernel_rfl)) ?_
       try go_wp2
       go_meet
       case rel => exact ⟨_, (true), qE, H', ⟨by first | omega | exact Nat.le_refl _⟩, ⟨qK⟩, ⟨qB⟩⟩
      have H' := Aside0.mk H; clear H
      try go_wp2
      have n0_ : Aside0 (((((w6.setCell ⟨gb343, 0, none⟩ (.int .i64 ((rd_T43 l0 a1).f0))).setCell ⟨gb343, 1, none⟩ (.int .i64 ((rd_T43 l0 a1).f1))).setCell ⟨gb343, 2, none⟩ (.int .i64 ((rd_T43 l0 a1).f2))).setCell ⟨gb343, 3, none⟩ (.slice A342_3 ((rd_T43 l0 a1).f3).length c342_3)).heap[gb343]? = some (.cells #[.int .i64 ((rd_T43 l0 a1).f0), .int .i64 ((rd_T43 l0 a1).f1), .int .i64 ((rd_T43 l0 a1).f2), .slice A342_3 ((rd_T43 l0 a1).f3).length c342_3] 43 (0, 0))) := ⟨qP⟩; have n1_ : Aside0 (Below w.heap.size w ((((w6.setCell ⟨gb343, 0, none⟩ (.int .i64 ((rd_T43 l0 a1).f0))).setCell ⟨gb343, 1, none⟩ (.int .i64 ((rd_T43 l0 a1).f1))).setCell ⟨gb343, 2, none⟩ (.int .i64 ((rd_T43 l0 a1).f2))).setCell ⟨gb343, 3, none⟩ (.slice A342_3 ((rd_T43 l0 a1).f3).length c342_3))) := ⟨qB⟩; (try clear BK343); (try clear HB)
      generalize ((((w6.setCell ⟨gb343, 0, none⟩ (.int .i64 ((rd_T43 l0 a1).f0))).setCell ⟨gb343, 1, none⟩ (.int .i64 ((rd_T43 l0 a1).f1))).setCell ⟨gb343, 2, none⟩ (.int .i64 ((rd_T43 l0 a1).f2))).setCell ⟨gb343, 3, none⟩ (.slice A342_3 ((rd_T43 l0 a1).f3).length c342_3)) = w22 at n0_ n1_ ⊢
      have BK343 := n0_; have HB := n1_; clear n0_ n1_; replace BK343 := Aside0.mk (blk_drew BK343.out); replace HB := Aside0.mk (below_drew1 HB.out); have p344 : 0 ≤ (((rd_T43 l0 a1).f0) : Int) := qD; have q344 : ((rd_T43 l0 a1).f0) < (l0.length : Int) := qD; obtain ⟨ad344, A344_3, c344_3, e344, hx344_0, hx344_1, hx344_2, hx344_3, hl344_3, hi344_3⟩ := at_T43 HR0.out ((rd_T43 l0 a1).f0) p344 q344; have hw344_3 := hx344_3; have hw344_2 := hx344_2; have hw344_1 := hx344_1; have hw344_0 := hx344_0; obtain rfl : ad342 = ad344 := (by injection e344); replace hx344_0 := pw_cell_below HB.out hx344_0; replace hx344_1 := pw_cell_below HB.out hx344_1; replace hx344_2 := pw_cell_below HB.out hx344_2; replace hx344_3 := pw_cell_below HB.out hx344_3; have HR344_3 := Aside0.mk hi344_3; have HC344_3 := Aside0.mk hl344_3; clear hi344_3 hl344_3; replace p344 := eq_true p344; replace q344 := eq_true q344
      refine start_ (n := 32) (S := fun w' => w'.cell? ⟨gb343, 0, none⟩ = some (.int .i64 ((rd_T43 l0 a1).f0)) ∧ w'.cell? ⟨gb343, 1, none⟩ = some (.int .i64 ((rd_T43 l0 a1).f1)) ∧ w'.cell? ⟨gb343, 2, none⟩ = some (.int .i64 ((rd_T43 l0 a1).f2)) ∧ w'.cell? ⟨gb343, 3, none⟩ = some (.slice A342_3 ((rd_T43 l0 a1).f3).length c342_3) ∧ w'.cell? (ad342.add ((((rd_T43 l0 a1).f0)).toNat * 4)) = some (.int .i64 ((rd_T43 l0 ((rd_T43 l0 a1).f0)).f0)) ∧ w'.cell? ⟨(ad342.add ((((rd_T43 l0 a1).f0)).toNat * 4)).block, (ad342.add ((((rd_T43 l0 a1).f0)).toNat * 4)).off + 1, none⟩ = some (.int .i64 ((rd_T43 l0 ((rd_T43 l0 a1).f0)).f1)) ∧ w'.cell? ⟨(ad342.add ((((rd_T43 l0 a1).f0)).toNat * 4)).block, (ad342.add ((((rd_T43 l0 a1).f0)).toNat * 4)).off + 2, none⟩ = some (.int .i64 ((rd_T43 l0 ((rd_T43 l0 a1).f0)).f2)) ∧ w'.cell? ⟨(ad342.add ((((rd_T43 l0 a1).f0)).toNat * 4)).block, (ad342.add ((((rd_T43 l0 a1).f0)).toNat * 4)).off + 3, none⟩ = some (.slice A344_3 ((rd_T43 l0 ((rd_T43 l0 a1).f0)).f3).length c344_3)) (ds := []) _ (by kernel_rfl) rfl (fls 32) ⟨(blk_cell BK343.out 0).trans rfl, (blk_cell BK343.out 1).trans rfl, (blk_cell BK343.out 2).trans rfl, (blk_cell BK343.out 3).trans rfl, ((HB.out.cell (World.block_lt_of_cell? w _ hw344_0)).trans hw344_0), ((HB.out.cell (World.block_lt_of_cell? w _ hw344_1)).trans hw344_1), ((HB.out.cell (World.block_lt_of_cell? w _ hw344_2)).trans hw344_2), ((HB.out.cell (World.block_lt_of_cell? w _ hw344_3)).trans hw344_3)⟩ (fun hHeld => ?_); refine with_tabW tree_Tree_forked.tab2 tree_Tree_forked.bits2 (fun HT_ HW_ => ?_)
      generalize w22.drew = w23 at BK343 HB HR344_3 hx344_0 hx344_1 hx344_2 hx344_3 hHeld ⊢
      refine pu 0 12 ?_; refine tk 1 13 ?_; refine pu 2 14 ?_; refine pu 3 15 ?_; refine pu 4 16 ?_; refine pu 6 18 ?_; refine tk 5 17 ?_; refine pu 7 19 ?_; refine pu 8 20 ?_; refine pu 9 21 ?_; refine pu 10 22 ?_; refine tk 11 23 ?_; refine pu 12 24 ?_; refine pu 13 25 ?_; refine pu 14 26 ?_; refine pu 15 27 ?_; refine pu 17 29 ?_; refine pu 18 30 ?_; refine tk 16 28 ?_; refine tk 19 31 ?_; refine pu 20 32 ?_; refine pu 21 33 ?_; refine tk 22 34 ?_; refine pu 23 35 ?_; refine pu 24 36 ?_; refine pu 25 37 ?_; refine pu 26 38 ?_; refine pu 28 40 ?_; refine tk 27 39 ?_; refine tk 29 41 ?_; refine pu 30 42 ?_; refine pu 31 43 ?_; refine done_ (done_of HT_.out (by kernel_rfl)) ?_
      try go_wp2
      go_meet
      case rel => exact ⟨_, (decide (((rd_T43 l0 a1).f2) ≤ ((rd_T43 l0 a1).f1))), qE, H', ⟨by first | omega | exact Nat.le_refl _⟩, ⟨qK⟩, ⟨qB⟩⟩
     rw [if_neg c18] at H; exact absurd H (by simp)
    exact absurd H (by simp)
   case rest =>
    clear HC5
    try clear p2
    try clear p3
    try clear q3
    try clear hx3
    try clear hx344_0
    try clear hx344_1
    try clear hx344_2
    try clear hx344_3
    try clear p344
    try clear q344
    obtain ⟨kq, x43_4, rfl, HA, HJ4, BK343, HB⟩ := hcut
    cases kq with
    | zero => exact absurd HA.out (by simp [tree_Tree_forked.j0])
    | succ kj4 =>
     have H := HA.out; clear HA; simp only [tree_Tree_forked.j0] at H
     by_cases c24 : x43_4 = true
     ·subst c24; rw [if_pos rfl] at H; obtain rfl := Option.some.inj H
      go_wp2
      go_ret; exact ⟨qR, qB⟩
     replace c24 := Bool.eq_false_iff.mpr c24; subst c24; rw [if_neg (show ¬ (false = true) by decide)] at H; replace H := Option.bind_eq_some_iff.mp H; obtain ⟨⟨t345, t346, t347, t348, t349⟩, A250, H⟩ := H; (try dsimp -simprocs only at H); have A25 := Aside0.mk A250; clear A250
     by_cases c26 : t349 = true
     ·subst c26; rw [if_pos rfl] at H; replace H := Option.bind_eq_some_iff.mp H; obtain ⟨t351, A270, H⟩ := H; (try dsimp -simprocs only at H); have A27 := Aside0.mk A270; clear A270; replace H := iD H
      rcases H with ⟨c28b0, H⟩ | ⟨c28b0, H⟩
      ·by_cases c29 : ((rd_T43 l0 a1).f0) < (l0.length : Int)
       ·rw [if_pos c29] at H; have c29b0 := decide_eq_true c29; clear c29; replace H := Option.bind_eq_some_iff.mp H; obtain ⟨t355, A300, H⟩ := H; (try dsimp -simprocs only at H); have A30 := Aside0.mk A300; clear A300; replace H := Option.bind_eq_some_iff.mp H; obtain ⟨t358, A310, H⟩ := H; (try dsimp -simprocs only at H); have A31 := Aside0.mk A310; clear A310; obtain rfl := Option.some.inj H; obtain ⟨_, _, _, _, _, _, _, _⟩ := cells4 BK343.out
        try go_wp2_with (first | ((with_reducible refine gc 42 rfl ?_); refine gl (some 49) #[.slice (some ad342) l0.length c0, .int .i64 a1, .int .i64 ((rd_T43 l0 a1).f1)] Tryd.func42 ?_; (with_reducible refine (tree_Tree_Input.calls _ _ l0 a1 ((rd_T43 l0 a1).f1) t345 t346 t347 t348 true _ ?side1 ?side2 A25.out).mono ?_); (case side1 => exact qC); (case side2 => exact HC0.out); rintro e w33 ⟨rfl, hb⟩; refine ⟨_, rfl, ?_⟩; replace BK343 := kb gb343 hb; replace HB := bst hb; (try clear hb)) | ((with_reducible refine gd 6 rfl ?_); refine bx 6 #[.int .i64 0, .int .i64 0, .string (⟨#[]⟩ : ByteArray), .int .i64 0] 45 ?_; intro gb350 hg w34 hbox hb; have BK350 := Aside0.mk (hbox); have GW350 := geS hg; have GE350 := geS hg; have NB343_350 := neS gb343 hg; have NB350_343 := neT gb343 hg; replace BK343 := kb gb343 hb; replace HB := bst hb; clear hb hbox hg; have := NB350_343.out; have := NB343_350.out; obtain ⟨_, _, _, _, _, _, _, _⟩ := cells4 BK350.out))
        have n0_ : Aside0 (((((w34.setCell ⟨gb350, 0, none⟩ (.int .i64 t345)).setCell ⟨gb350, 1, none⟩ (.int .i64 t346)).setCell ⟨gb350, 2, none⟩ (.string t347)).setCell ⟨gb350, 3, none⟩ (.int .i64 t348)).heap[gb343]? = some (.cells #[.int .i64 ((rd_T43 l0 a1).f0), .int .i64 ((rd_T43 l0 a1).f1), .int .i64 ((rd_T43 l0 a1).f2), .slice A342_3 ((rd_T43 l0 a1).f3).length c342_3] 43 (0, 0))) := ⟨qK⟩; have n1_ : Aside0 (((((w34.setCell ⟨gb350, 0, none⟩ (.int .i64 t345)).setCell ⟨gb350, 1, none⟩ (.int .i64 t346)).setCell ⟨gb350, 2, none⟩ (.string t347)).setCell ⟨gb350, 3, none⟩ (.int .i64 t348)).heap[gb350]? = some (.cells #[.int .i64 t345, .int .i64 t346, .string t347, .int .i64 t348] 45 (0, 0))) := ⟨qP⟩; have n2_ : Aside0 (Below w.heap.size w ((((w34.setCell ⟨gb350, 0, none⟩ (.int .i64 t345)).setCell ⟨gb350, 1, none⟩ (.int .i64 t346)).setCell ⟨gb350, 2, none⟩ (.string t347)).setCell ⟨gb350, 3, none⟩ (.int .i64 t348))) := ⟨qB⟩; (try clear BK343); (try clear BK350); (try clear HB)
        generalize ((((w34.setCell ⟨gb350, 0, none⟩ (.int .i64 t345)).setCell ⟨gb350, 1, none⟩ (.int .i64 t346)).setCell ⟨gb350, 2, none⟩ (.string t347)).setCell ⟨gb350, 3, none⟩ (.int .i64 t348)) = w37 at n0_ n1_ n2_ ⊢
        have BK343 := n0_; have BK350 := n1_; have HB := n2_; clear n0_ n1_ n2_; replace BK343 := Aside0.mk (blk_drew BK343.out); replace BK350 := Aside0.mk (blk_drew BK350.out); replace HB := Aside0.mk (below_drew1 HB.out); have p354 : 0 ≤ (((rd_T43 l0 a1).f0) : Int) := qD; have q354 : ((rd_T43 l0 a1).f0) < (l0.length : Int) := qD; obtain ⟨ad354, A354_3, c354_3, e354, hx354_0, hx354_1, hx354_2, hx354_3, hl354_3, hi354_3⟩ := at_T43 HR0.out ((rd_T43 l0 a1).f0) p354 q354; have hw354_3 := hx354_3; have hw354_2 := hx354_2; have hw354_1 := hx354_1; have hw354_0 := hx354_0; obtain rfl : ad342 = ad354 := (by injection e354); replace hx354_0 := pw_cell_below HB.out hx354_0; replace hx354_1 := pw_cell_below HB.out hx354_1; replace hx354_2 := pw_cell_below HB.out hx354_2; replace hx354_3 := pw_cell_below HB.out hx354_3; have HR354_3 := Aside0.mk hi354_3; have HC354_3 := Aside0.mk hl354_3; clear hi354_3 hl354_3; replace p354 := eq_true p354; replace q354 := eq_true q354
        refine start_ (n := 17) (S := fun w' => w'.cell? ⟨gb343, 0, none⟩ = some (.int .i64 ((rd_T43 l0 a1).f0)) ∧ w'.cell? ⟨gb343, 1, none⟩ = some (.int .i64 ((rd_T43 l0 a1).f1)) ∧ w'.cell? ⟨gb343, 2, none⟩ = some (.int .i64 ((rd_T43 l0 a1).f2)) ∧ w'.cell? ⟨gb343, 3, none⟩ = some (.slice A342_3 ((rd_T43 l0 a1).f3).length c342_3) ∧ w'.cell? (ad342.add ((((rd_T43 l0 a1).f0)).toNat * 4)) = some (.int .i64 ((rd_T43 l0 ((rd_T43 l0 a1).f0)).f0)) ∧ w'.cell? ⟨(ad342.add ((((rd_T43 l0 a1).f0)).toNat * 4)).block, (ad342.add ((((rd_T43 l0 a1).f0)).toNat * 4)).off + 1, none⟩ = some (.int .i64 ((rd_T43 l0 ((rd_T43 l0 a1).f0)).f1)) ∧ w'.cell? ⟨(ad342.add ((((rd_T43 l0 a1).f0)).toNat * 4)).block, (ad342.add ((((rd_T43 l0 a1).f0)).toNat * 4)).off + 2, none⟩ = some (.int .i64 ((rd_T43 l0 ((rd_T43 l0 a1).f0)).f2)) ∧ w'.cell? ⟨(ad342.add ((((rd_T43 l0 a1).f0)).toNat * 4)).block, (ad342.add ((((rd_T43 l0 a1).f0)).toNat * 4)).off + 3, none⟩ = some (.slice A354_3 ((rd_T43 l0 ((rd_T43 l0 a1).f0)).f3).length c354_3)) (ds := []) _ (by kernel_rfl) rfl (fls 17) ⟨(blk_cell BK343.out 0).trans rfl, (blk_cell BK343.out 1).trans rfl, (blk_cell BK343.out 2).trans rfl, (blk_cell BK343.out 3).trans rfl, ((HB.out.cell (World.block_lt_of_cell? w _ hw354_0)).trans hw354_0), ((HB.out.cell (World.block_lt_of_cell? w _ hw354_1)).trans hw354_1), ((HB.out.cell (World.block_lt_of_cell? w _ hw354_2)).trans hw354_2), ((HB.out.cell (World.block_lt_of_cell? w _ hw354_3)).trans hw354_3)⟩ (fun hHeld => ?_); refine with_tabW tree_Tree_forked.tab5 tree_Tree_forked.bits5 (fun HT_ HW_ => ?_)
        generalize w37.drew = w38 at BK343 BK350 HB HR354_3 hx354_0 hx354_1 hx354_2 hx354_3 hHeld ⊢
        refine pu 0 52 ?_; refine pu 1 53 ?_; refine pu 3 55 ?_; refine pu 6 58 ?_; refine pu 7 59 ?_; refine pu 11 63 ?_; refine tk 2 54 ?_; refine tk 4 56 ?_; refine tk 8 60 ?_; refine pu 9 61 ?_; refine tk 10 62 ?_; refine tk 12 64 ?_; refine onx 5 57 (fun K hK => ?_); refine goes_ Tryd.func81 (by kernel_rfl) rfl #[.agg #[.int .i64 ((rd_T43 l0 a1).f0), .int .i64 ((rd_T43 l0 a1).f1), .int .i64 ((rd_T43 l0 a1).f2), .slice A342_3 ((rd_T43 l0 a1).f3).length c342_3], .int .i64 ((rd_T43 l0 a1).f1)] (by rfl) rfl rfl (by (try simp only [List.map_toArray, List.map_cons, List.map_nil]); first | done | rfl | (simp only [List.length_drop, List.length_take]; rfl)) ?_
        with_reducible refine (tree_Branch_ahead.calls kj4 ((rd_T43 l0 a1).f0) ((rd_T43 l0 a1).f1) ((rd_T43 l0 a1).f2) _ _ ((rd_T43 l0 a1).f3) ((rd_T43 l0 a1).f1) t351 _ ?side1 ?side2 A27.out).mono ?_
        (case side1 => exact qC); (case side2 => exact HC342_3.out); rintro e w39 ⟨v352, rfl, ho0, hb⟩; refine ⟨_, rfl, ?_⟩; have HO353 := Aside0.mk (Kd.R_lower (Kd.R_newB ho0 (g := gb350) (o := .cells #[.int .i64 t345, .int .i64 t346, .string t347, .int .i64 t348] 45 (0, 0)) qK) (below_size qB)); replace BK343 := kb gb343 hb; replace BK350 := kb gb350 hb; replace HB := bst hb; (try clear hb); (try clear hb2); (try clear hk); (try clear hi); (try clear ho0); refine hK.out _ _ ⟨(blk_cell BK343.out 0).trans rfl, (blk_cell BK343.out 1).trans rfl, (blk_cell BK343.out 2).trans rfl, (blk_cell BK343.out 3).trans rfl, ((HB.out.cell (World.block_lt_of_cell? w _ hw354_0)).trans hw354_0), ((HB.out.cell (World.block_lt_of_cell? w _ hw354_1)).trans hw354_1), ((HB.out.cell (World.block_lt_of_cell? w _ hw354_2)).trans hw354_2), ((HB.out.cell (World.block_lt_of_cell? w _ hw354_3)).trans hw354_3)⟩ (fun hHeld => ?_); clear hK K; refine nm 57 ?_; refine onx 13 65 (fun K hK => ?_); refine goes_ Tryd.func81 (by kernel_rfl) rfl #[.agg #[.int .i64 ((rd_T43 l0 ((rd_T43 l0 a1).f0)).f0), .int .i64 ((rd_T43 l0 ((rd_T43 l0 a1).f0)).f1), .int .i64 ((rd_T43 l0 ((rd_T43 l0 a1).f0)).f2), .slice A354_3 ((rd_T43 l0 ((rd_T43 l0 a1).f0)).f3).length c354_3], .int .i64 ((rd_T43 l0 a1).f1)] (by rfl) rfl rfl (by (try simp only [List.map_toArray, List.map_cons, List.map_nil]); first | done | rfl | (simp only [List.length_drop, List.length_take]; rfl)) ?_
        with_reducible refine (tree_Branch_ahead.calls kj4 ((rd_T43 l0 ((rd_T43 l0 a1).f0)).f0) ((rd_T43 l0 ((rd_T43 l0 a1).f0)).f1) ((rd_T43 l0 ((rd_T43 l0 a1).f0)).f2) _ _ ((rd_T43 l0 ((rd_T43 l0 a1).f0)).f3) ((rd_T43 l0 a1).f1) t355 _ ?side1 ?side2 A30.out).mono ?_
        (case side1 => exact qC); (case side2 => exact HC354_3.out); rintro e w40 ⟨v356, rfl, ho0, hb⟩; refine ⟨_, rfl, ?_⟩; have HO357 := Aside0.mk (Kd.R_lower (Kd.R_newB (Kd.R_new' ho0 (Kd.R_lt (by (with_reducible repeat (first | apply Kd.R_alloc | apply Kd.R_drewN | apply Kd.R_drew)); exact HO353.out))) (g := gb350) (o := .cells #[.int .i64 t345, .int .i64 t346, .string t347, .int .i64 t348] 45 (0, 0)) qK) (below_size qB)); replace BK343 := kb gb343 hb; replace BK350 := kb gb350 hb; replace HO353 := Aside0.mk (Kd.R_elder' (by (with_reducible repeat (first | apply Kd.R_alloc | apply Kd.R_drewN | apply Kd.R_drew)); exact HO353.out) (Kd.R_base ho0) hb); replace HB := bst hb; (try clear hb); (try clear hb2); (try clear hk); (try clear hi); (try clear ho0); obtain ⟨Ao41, co41, eo41⟩ := Kd.R_slice HO353.out; (first | subst eo41 | (injection eo41 with f1_ f2_ f3_; have f4_ := f1_.symm; have f5_ := f3_.symm; clear f1_ f2_ f3_; subst f4_; subst f5_)); obtain ⟨Ao42, co42, eo42⟩ := Kd.R_slice HO357.out; (first | subst eo42 | (injection eo42 with f1_ f2_ f3_; have f4_ := f1_.symm; have f5_ := f3_.symm; clear f1_ f2_ f3_; subst f4_; subst f5_))
        refine hK.out _ _ ⟨(blk_cell BK343.out 0).trans rfl, (blk_cell BK343.out 1).trans rfl, (blk_cell BK343.out 2).trans rfl, (blk_cell BK343.out 3).trans rfl, ((HB.out.cell (World.block_lt_of_cell? w _ hw354_0)).trans hw354_0), ((HB.out.cell (World.block_lt_of_cell? w _ hw354_1)).trans hw354_1), ((HB.out.cell (World.block_lt_of_cell? w _ hw354_2)).trans hw354_2), ((HB.out.cell (World.block_lt_of_cell? w _ hw354_3)).trans hw354_3)⟩ (fun hHeld => ?_); clear hK K; refine nm 65 ?_; refine onx 14 66 (fun K hK => ?_); refine goes_ Tryd.func87 (by kernel_rfl) rfl #[.slice Ao41 t351.length co41, .slice Ao42 t355.length co42] (by rfl) rfl rfl (by (try simp only [List.map_toArray, List.map_cons, List.map_nil]); first | done | rfl | (simp only [List.length_drop, List.length_take]; rfl)) ?_
        with_reducible refine (tree_Input.calls kj4 _ _ t351 _ _ t355 t358 _ ?side1 ?side2 ?side3 ?side4 A31.out).mono ?_
        (case side1 => exact cr HO353); (case side2 => exact (Kd.R_reads' HO353.out).2.1); (case side3 => exact cr HO357); (case side4 => exact (Kd.R_reads' HO357.out).2.1); rintro e w' ⟨rfl, ⟨nd, rfl⟩⟩; refine ⟨_, rfl, ?_⟩; refine hK.out _ _ ⟨(blk_cell BK343.out 0).trans rfl, (blk_cell BK343.out 1).trans rfl, (blk_cell BK343.out 2).trans rfl, (blk_cell BK343.out 3).trans rfl, ((HB.out.cell (World.block_lt_of_cell? w _ hw354_0)).trans hw354_0), ((HB.out.cell (World.block_lt_of_cell? w _ hw354_1)).trans hw354_1), ((HB.out.cell (World.block_lt_of_cell? w _ hw354_2)).trans hw354_2), ((HB.out.cell (World.block_lt_of_cell? w _ hw354_3)).trans hw354_3)⟩ (fun hHeld => ?_); clear hK K; refine nm 66 ?_; refine pu 15 67 ?_; refine pu 16 4 ?_; refine done_ (done_of HT_.out (by kernel_rfl)) ?_
        try go_wp2
        go_ret; exact ⟨qR, qB⟩
       rw [if_neg c29] at H; exact absurd H (by simp)
      exact absurd H (by simp)
     replace c26 := Bool.eq_false_iff.mpr c26; subst c26; rw [if_neg (show ¬ (false = true) by decide)] at H; obtain rfl := Option.some.inj H; obtain ⟨_, _, _, _, _, _, _, _⟩ := cells4 BK343.out
     try go_wp2_with (first | ((with_reducible refine gc 42 rfl ?_); refine gl (some 49) #[.slice (some ad342) l0.length c0, .int .i64 a1, .int .i64 ((rd_T43 l0 a1).f1)] Tryd.func42 ?_; (with_reducible refine (tree_Tree_Input.calls _ _ l0 a1 ((rd_T43 l0 a1).f1) t345 t346 t347 t348 false _ ?side1 ?side2 A25.out).mono ?_); (case side1 => exact qC); (case side2 => exact HC0.out); rintro e w44 ⟨rfl, hb⟩; refine ⟨_, rfl, ?_⟩; replace BK343 := kb gb343 hb; replace HB := bst hb; (try clear hb)) | ((with_reducible refine gd 6 rfl ?_); refine bx 6 #[.int .i64 0, .int .i64 0, .string (⟨#[]⟩ : ByteArray), .int .i64 0] 45 ?_; intro gb350 hg w45 hbox hb; have BK350 := Aside0.mk (hbox); have GW350 := geS hg; have GE350 := geS hg; have NB343_350 := neS gb343 hg; have NB350_343 := neT gb343 hg; replace BK343 := kb gb343 hb; replace HB := bst hb; clear hb hbox hg; have := NB350_343.out; have := NB343_350.out; obtain ⟨_, _, _, _, _, _, _, _⟩ := cells4 BK350.out))
     have n0_ : Aside0 (((((w45.setCell ⟨gb350, 0, none⟩ (.int .i64 t345)).setCell ⟨gb350, 1, none⟩ (.int .i64 t346)).setCell ⟨gb350, 2, none⟩ (.string t347)).setCell ⟨gb350, 3, none⟩ (.int .i64 t348)).heap[gb343]? = some (.cells #[.int .i64 ((rd_T43 l0 a1).f0), .int .i64 ((rd_T43 l0 a1).f1), .int .i64 ((rd_T43 l0 a1).f2), .slice A342_3 ((rd_T43 l0 a1).f3).length c342_3] 43 (0, 0))) := ⟨qK⟩; have n1_ : Aside0 (((((w45.setCell ⟨gb350, 0, none⟩ (.int .i64 t345)).setCell ⟨gb350, 1, none⟩ (.int .i64 t346)).setCell ⟨gb350, 2, none⟩ (.string t347)).setCell ⟨gb350, 3, none⟩ (.int .i64 t348)).heap[gb350]? = some (.cells #[.int .i64 t345, .int .i64 t346, .string t347, .int .i64 t348] 45 (0, 0))) := ⟨qP⟩; have n2_ : Aside0 (Below w.heap.size w ((((w45.setCell ⟨gb350, 0, none⟩ (.int .i64 t345)).setCell ⟨gb350, 1, none⟩ (.int .i64 t346)).setCell ⟨gb350, 2, none⟩ (.string t347)).setCell ⟨gb350, 3, none⟩ (.int .i64 t348))) := ⟨qB⟩; (try clear BK343); (try clear BK350); (try clear HB)
     generalize ((((w45.setCell ⟨gb350, 0, none⟩ (.int .i64 t345)).setCell ⟨gb350, 1, none⟩ (.int .i64 t346)).setCell ⟨gb350, 2, none⟩ (.string t347)).setCell ⟨gb350, 3, none⟩ (.int .i64 t348)) = w48 at n0_ n1_ n2_ ⊢
     have BK343 := n0_; have BK350 := n1_; have HB := n2_; clear n0_ n1_ n2_; replace BK343 := Aside0.mk (blk_drew BK343.out); replace BK350 := Aside0.mk (blk_drew BK350.out); replace HB := Aside0.mk (below_drew1 HB.out); refine start_ (n := 17) (S := fun w' => True) (ds := []) _ (by kernel_rfl) rfl (fls 17) trivial (fun hHeld => ?_); refine with_tabW tree_Tree_forked.tab5 tree_Tree_forked.bits5 (fun HT_ HW_ => ?_)
     generalize w48.drew = w49 at BK343 BK350 HB hHeld ⊢
     refine pu 0 52 ?_; refine pu 1 53 ?_; refine po 2 54 ?_; refine po 3 55 ?_; refine po 4 56 ?_; refine po 5 57 ?_; refine po 6 58 ?_; refine po 7 59 ?_; refine po 8 60 ?_; refine po 9 61 ?_; refine po 10 62 ?_; refine po 11 63 ?_; refine po 12 64 ?_; refine po 13 65 ?_; refine po 14 66 ?_; refine pu 15 67 ?_; refine pu 16 4 ?_; refine done_ (done_of HT_.out (by kernel_rfl)) ?_
     try go_wp2
     go_ret; exact ⟨qR, qB⟩
  exact absurd H (by simp)
 rw [if_neg c3] at H
 exact absurd H (by simp)
end Go.Proofs.YtbngfhlciebeeaaDoor.L
end
