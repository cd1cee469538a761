/- Printed and hand-written steps towards the row (TreeEnds), those that it reaches. -/
import Derived.Test.YtbngfhlciebeeaaDoorTreeEndsG30
import Derived.Test.YtbngfhlciebeeaaDoorTreeEndsLxf11
namespace Go.Proofs.YtbngfhlciebeeaaDoor.Sp
set_option linter.unusedVariables false
set_option linter.unusedSimpArgs false
open Go.RowKit Go.Proofs.YtbngfhlciebeeaaDoor.L Go.Proofs.YtbngfhlciebeeaaDoorW.PrintWords
theorem equalE_self (xs : List S45) (hx : xs.length ≤ 1000000) : Ev (fun k => tree_Input.f k xs xs) true := by
  have := equal_ev xs xs hx
  rw [eqL_iff.2 rfl] at this
  exact this
theorem SameE_l0 (t : List S43) (hs : smallT t) : ∀ (d j : Nat), j ≤ t.length → t.length - j = d → Ev (fun k => tree_Branch_same.l0 k t t (t.length : Int) (j : Int)) true := by
  have hl := hs.1
  intro d
  induction d with
  | zero =>
    intro j hj hd
    refine Ev.succ ?_
    simp only [tree_Branch_same.l0]
    exact Ev.neg (by omega) (Ev.some rfl)
  | succ d ih =>
    intro j hj hd
    have hjl : j < t.length := by omega
    refine Ev.succ ?_
    simp only [tree_Branch_same.l0]
    rw [rd43 hjl, wrap_at (x := (j : Int) + 1) (by omega) (by omega), show (j : Int) + 1 = ((j + 1 : Nat) : Int) by omega]
    refine Ev.pos (by omega) (Ev.pos (by omega) (Ev.pos (by omega) (Ev.pos (by omega) (Ev.bind (a := true) ?_ (Ev.pos rfl (ih (j + 1) (by omega) (by omega)))))))
    unfold tree_Tree_Same_1.f
    exact Ev.pos rfl (Ev.pos rfl (Ev.pos rfl (Ev.bind (equalE_self _ (hs.2 _ (List.getElem_mem hjl)).1) (Ev.some rfl))))
theorem SameE_self (t : List S43) (hs : smallT t) : Ev (fun k => tree_Tree_Same.f k t t) true := by
  unfold tree_Tree_Same.f tree_Branch_same.f
  refine Ev.bind (a := true) ?_ (Ev.some rfl)
  exact Ev.pos rfl (SameE_l0 t hs t.length 0 (by omega) (by omega))
theorem SameE_eq {t u : List S43} (hs : smallT t) (e : u = t) : Ev (fun k => tree_Tree_Same.f k u t) true := by
  rw [e]; exact SameE_self t hs
theorem smallT_sub {t u : List S43} (hs : smallT t) (hl : u.length ≤ t.length) (hm : ∀ b ∈ u, b ∈ t) : smallT u := ⟨Nat.le_trans hl hs.1, fun b hb => hs.2 b (hm b hb)⟩
theorem end_find {xs : List S45} {a : Int} {y : S45} (h : ∀ z ∈ xs, z.f0 < a) (hy : y.f0 = a) : findAt a (xs ++ [y]) = some y := by
  unfold findAt
  rw [List.find?_append, List.find?_eq_none.2 (fun z hz => by have := h z hz; simp; omega)]
  simp [hy]
theorem ahead_lt {a : Int} {xs : List S45} : ∀ z ∈ ahead a xs, z.f0 < a := fun z hz => by
  have := (List.mem_filter.1 hz).2
  simpa using this
theorem set_cut (t : List S43) {n : Nat} (hn : n < t.length) (B : S43) : (t.set n B).take n = t.take n ∧ (t.set n B).drop (n + 1) = t.drop (n + 1) := by
  have hl : (t.take n).length = n := by rw [List.length_take]; omega
  rw [List.set_eq_take_append_cons_drop, if_pos hn]
  refine ⟨?_, ?_⟩
  · rw [List.take_append_of_le_length (by omega), List.take_take, Nat.min_self]
  · rw [List.drop_append, List.drop_eq_nil_of_le (by omega), hl, show n + 1 - n = 1 by omega]
    rfl
theorem put_cases {t : List S43} (h : okT t) (b at_ : Int) {x : S45} (hx : x.f2.size ≤ 200) :
    (∃ e : Int, e ≠ 0 ∧ putL t b at_ x = (t, 0, e)) ∨
    ∃ (o : List S43) (n c : Nat) (ys : List S45) (hn : n < o.length) (hc : c < o.length), b = (n : Int) ∧ putL t b at_ x = (o, (c : Int), 0) ∧ 0 ≤ at_ ∧ at_ < 512 ∧ o[c].f2 = at_ + 1 ∧
      o[c].f3 = ys ++ [inAt x at_] ∧ (∀ z ∈ ys, z.f0 < at_) ∧ at_ ≤ ((cp (movesB o[n]) (movesB o[c]) : Nat) : Int) ∧
      Ev (fun k => whirligiglaw22_TreeEnds.j2 k b t o (c : Int) false) true := by
  have hsm := okT_small h
  obtain ⟨e1, e8, eb⟩ := rightTree_iff.1 h.1
  unfold putL
  by_cases hb : 0 ≤ b ∧ b < (t.length : Int)
  · rw [if_pos hb]
    obtain ⟨n, rfl⟩ := Int.eq_ofNat_of_zero_le hb.1
    have hn : n < t.length := by omega
    rw [rd43 hn]
    by_cases h1 : at_ < 0 ∨ at_ > t[n].f2
    · rw [if_pos h1]; exact .inl ⟨10, by decide, rfl⟩
    rw [if_neg h1]
    by_cases h2 : rightI (inAt x at_) = false
    · rw [if_pos h2]; exact .inl ⟨11, by decide, rfl⟩
    rw [if_neg h2]
    by_cases h3 : at_ ≥ 512
    · rw [if_pos h3]; exact .inl ⟨41, by decide, rfl⟩
    rw [if_neg h3]
    have hg := goodB_iff.1 (okT_good h (List.getElem_mem hn))
    have hr : rightI (inAt x at_) = true := by simpa using h2
    have hput : rising (at_ + 1) (-1) (ahead at_ t[n].f3 ++ [inAt x at_]) = true := rising_put hr rfl hg.2.2 (show -1 < at_ by omega)
    by_cases h4 : at_ < t[n].f2
    · rw [if_pos h4]
      by_cases h5 : (t.length : Int) ≥ 8
      · rw [if_pos h5]; exact .inl ⟨42, by decide, rfl⟩
      · rw [if_neg h5]
        refine .inr ⟨_, n, t.length, ahead at_ t[n].f3, by simp; omega, by simp, rfl, rfl, by omega, by omega, ?_, ?_, ahead_lt, ?_, ?_⟩
        · rw [List.getElem_append_right (Nat.le_refl _)]; simp
        · rw [List.getElem_append_right (Nat.le_refl _)]; simp
        · rw [List.getElem_append_left hn, List.getElem_append_right (Nat.le_refl _)]
          simp only [Nat.sub_self, List.getElem_cons_zero]
          obtain ⟨m, rfl⟩ := Int.eq_ofNat_of_zero_le (show 0 ≤ at_ by omega)
          have hcp := (cp_ge (movesB t[n]) (movesB ⟨(n : Int), (m : Int), (m : Int) + 1, ahead (m : Int) t[n].f3 ++ [inAt x (m : Int)]⟩) m (by unfold movesB; rw [gen_length]; omega) (by unfold movesB; rw [gen_length]; simp only; omega)).2 (by
            unfold movesB
            rw [gen_take _ _ _ _ (by omega), gen_take _ _ _ _ (by simp only; omega)]
            refine (gen_ahead m 0 _ _ (-1) (-1) hg.2.2 hput (by omega) (by omega)).2 ?_
            rw [Nat.zero_add, ahead_snoc (show (m : Int) ≤ (inAt x (m : Int)).f0 from Int.le_refl _), ahead_ahead])
          omega
        · refine Ev.succ ?_
          simp only [whirligiglaw22_TreeEnds.j2]
          have hlen : ((t ++ [(⟨(n : Int), at_, at_ + 1, ahead at_ t[n].f3 ++ [inAt x at_]⟩ : S43)]).length : Int) = (t.length : Int) + 1 := by simp
          rw [wrap_at (x := (t.length : Int) + 1) (by omega) (by omega), hlen]
          refine Ev.neg (by decide) (Ev.neg (by omega) (Ev.pos (by trivial) (Ev.pos (by omega) (Ev.pos (by omega) (Ev.bind (SameE_eq hsm ?_) (Ev.pos (by trivial) (Ev.pos (by trivial) (Ev.pos (by omega) (Ev.pos (by omega) (Ev.some ?_))))))))))
          · rw [Int.toNat_natCast, List.take_left]
          · rw [rd43 (by simp), List.getElem_append_right (Nat.le_refl _)]; simp
    · rw [if_neg h4]
      have hat : at_ = t[n].f2 := by omega
      have hall : ∀ z ∈ t[n].f3, z.f0 < at_ := fun y hy => by
        have := (rising_mem hg.2.2 y hy).2.2
        omega
      refine .inr ⟨_, n, n, t[n].f3, by simpa using hn, by simpa using hn, rfl, rfl, by omega, by omega, ?_, ?_, hall, ?_, ?_⟩
      · simp
      · simp
      · rw [cp_self]
        unfold movesB
        rw [gen_length]
        simp
        omega
      · refine Ev.succ ?_
        simp only [whirligiglaw22_TreeEnds.j2]
        rw [wrap_at (x := (n : Int) + 1) (by omega) (by omega), List.length_set]
        obtain ⟨c1, c2⟩ := set_cut t hn ⟨t[n].f0, t[n].f1, at_ + 1, t[n].f3 ++ [inAt x at_]⟩
        refine Ev.neg (by decide) (Ev.pos (by trivial) (Ev.pos (by trivial) (Ev.pos (by omega) (Ev.pos (by omega) (Ev.pos (by omega) (Ev.bind (SameE_eq (smallT_sub hsm ?_ ?_) ?_) (Ev.pos (by trivial) (Ev.pos (by omega) (Ev.pos (by omega) (Ev.pos (by omega) (Ev.bind (SameE_eq (smallT_sub hsm ?_ ?_) ?_) (Ev.some rfl))))))))))))
        · rw [List.length_take]; omega
        · exact fun b hb => List.mem_of_mem_take hb
        · rw [Int.toNat_natCast]; exact c1
        · rw [List.length_drop]; omega
        · exact fun b hb => List.mem_of_mem_drop hb
        · rw [show ((n : Int) + 1).toNat = n + 1 by omega]; exact c2
  · rw [if_neg hb]; exact .inl ⟨12, by decide, rfl⟩
theorem ends_end {t : List S43} (h : okT t) (b at_ : Int) {x : S45} (hx : x.f2.size ≤ 200) (l : List S56) :
    Ev (fun k => whirligiglaw22_TreeEnds.l0 k b at_ t l (l.length : Int) (l.length : Int) x.f0 x.f1 x.f2 x.f3) true := by
  have hok := okT_put h b at_ hx
  refine Ev.succ ?_
  simp only [whirligiglaw22_TreeEnds.l0]
  refine Ev.neg (by omega) (Ev.bind (put_ok h b at_ x hx) ?_)
  rcases put_cases h b at_ hx with ⟨e, he, hp⟩ | ⟨o, n, c, ys, hn, hc, rfl, hp, h0, h5, e2, e3, hy, hcm, hj⟩
  · rw [hp]
    exact Ev.neg he (Ev.bind (SameE_self t (okT_small h)) (Ev.pos (by trivial) (Ev.some rfl)))
  · rw [hp] at hok ⊢
    simp only at hok ⊢
    have hf := end_find (y := inAt x at_) hy rfl
    rw [← e3] at hf
    have hin := input_in hc at_
    rw [hf] at hin
    rw [rd43 hc, e2, wrap_at (x := at_ + 1) (by omega) (by omega)]
    refine Ev.pos (by trivial) (Ev.bind_some hin (Ev.pos (by trivial) (Ev.neg (by simp [inOut, inAt]) (Ev.pos (by omega) (Ev.pos (by omega) (Ev.pos (by trivial) (Ev.bind (right_ev o (okT_small hok)) (Ev.pos hok.1 (Ev.bind (commonT_in hok hn hc) ?_)))))))))
    rw [decide_eq_false (by omega)]
    exact hj
theorem endsOp_l (l : List S56) (hl : l.length ≤ 700) (hsm : smallO l = true) (b at_ : Int) {x : S45} (hx : x.f2.size ≤ 200) (d : Nat) : ∀ (j : Nat) (t : List S43), okT t → j ≤ l.length → l.length - j = d →
    Ev (fun k => whirligiglaw22_TreeEnds.l0 k b at_ t l (l.length : Int) (j : Int) x.f0 x.f1 x.f2 x.f3) true := by
  induction d with
  | zero =>
    intro j t ht hj hd
    obtain rfl : j = l.length := by omega
    exact ends_end ht b at_ hx l
  | succ d ih =>
    intro j t ht hj hd
    have hjl : j < l.length := by omega
    have hname := smallO_mem hsm (List.getElem_mem hjl)
    have hnext := ih (j + 1) (opL t l[j]) (okT_op ht hname) (by omega) (by omega)
    unfold opL at hnext
    refine Ev.succ ?_
    simp only [whirligiglaw22_TreeEnds.l0]
    rw [rd56 hjl, wrap_at (x := (j : Int) + 1) (by omega) (by omega)]
    refine Ev.pos (by omega) (Ev.pos (by omega) (Ev.pos (by omega) ?_))
    by_cases h1 : l[j].f0 = 1
    · rw [if_pos h1] at hnext
      exact Ev.pos h1 (Ev.bind_some (grow_ok ht _) hnext)
    · rw [if_neg h1] at hnext
      refine Ev.neg h1 ?_
      by_cases h2 : l[j].f0 = 2
      · rw [if_pos h2] at hnext
        exact Ev.pos h2 (Ev.bind (put_ok ht _ _ _ hname) hnext)
      · rw [if_neg h2] at hnext
        exact Ev.neg h2 hnext
theorem ends_j0 (l : List S56) (hl : l.length ≤ 700) (hsm : smallO l = true) (b at_ : Int) (x : S45) (r : Bool) (hr : r = false → x.f2.size ≤ 200) :
    Ev (fun k => whirligiglaw22_TreeEnds.j0 k l b at_ r x.f0 x.f1 x.f2 x.f3) true := by
  refine Ev.succ ?_
  simp only [whirligiglaw22_TreeEnds.j0]
  cases r with
  | true => exact Ev.pos (by trivial) (Ev.some rfl)
  | false => exact Ev.neg (by decide) (Ev.bind_some (show tree_New.f = some [⟨-1, 0, 0, []⟩] from rfl) (endsOp_l l hl hsm b at_ (hr rfl) _ 0 _ okT_new (by omega) rfl))
theorem ends_j0t (l : List S56) (b at_ : Int) (x : S45) : Ev (fun k => whirligiglaw22_TreeEnds.j0 k l b at_ true x.f0 x.f1 x.f2 x.f3) true := by
  refine Ev.succ ?_
  simp only [whirligiglaw22_TreeEnds.j0]
  exact Ev.pos (by trivial) (Ev.some rfl)
theorem TreeEnds_ev (l : List S56) (o : l.length ≤ maxLen ∧ ∀ x ∈ l, Opn.I64 x.f0 ∧ Opn.I64 x.f1 ∧ Opn.I64 x.f2 ∧ (Opn.I64 x.f3.f0 ∧ Opn.I64 x.f3.f1 ∧ x.f3.f2.size ≤ maxLen ∧ Opn.I64 x.f3.f3)) (b : Int) (hb : Opn.I64 b) (at_ : Int) (ha : Opn.I64 at_)
    (x : S45) (hx : Opn.I64 x.f0 ∧ Opn.I64 x.f1 ∧ x.f2.size ≤ maxLen ∧ Opn.I64 x.f3) :
    Ev (fun k => whirligiglaw22_TreeEnds.f k l b at_ x.f0 x.f1 x.f2 x.f3) true := by
  have hl := o.1
  unfold maxLen at hl
  unfold whirligiglaw22_TreeEnds.f
  refine Ev.bind anchor22_ev (Ev.pos (by trivial) (Ev.bind (smallOp_ev l hl) ?_))
  cases hs : smallO l with
  | false => exact Ev.neg (by simp) (ends_j0t l b at_ x)
  | true =>
    by_cases h7 : l.length ≤ 700
    · rw [decide_eq_true h7]
      exact Ev.pos (by trivial) (ends_j0 l h7 hs b at_ x _ (fun hr => by simp at hr; omega))
    · rw [decide_eq_false h7]
      exact Ev.neg (by simp) (ends_j0t l b at_ x)
end Go.Proofs.YtbngfhlciebeeaaDoor.Sp
