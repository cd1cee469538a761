/- Printed and hand-written steps towards the row (TreePlays), those that it reaches. -/
import Derived.Test.YtbngfhlciebeeaaDoorTreePlaysG23
import Derived.Test.YtbngfhlciebeeaaDoorTreePlaysG20
import Derived.Test.YtbngfhlciebeeaaDoorTreePlaysLxf10
namespace Go.Proofs.YtbngfhlciebeeaaDoor.Sp
set_option linter.unusedVariables false
set_option linter.unusedSimpArgs false
open Go.RowKit Go.Proofs.YtbngfhlciebeeaaDoorW.PrintWords Go.Proofs.YtbngfhlciebeeaaDoorW.PrintMore Go.Proofs.YtbngfhlciebeeaaDoor.L
theorem with_set {T : List S65} {b : Int} (hT : T.length ≤ 1000000) (h0 : 0 ≤ b) (h1 : b < (T.length : Int)) (p0 p1 p2 : Int) (Y : List S47) : whirligigref22_with.f T b p0 p1 p2 Y = some (T.set b.toNat ⟨p0, p1, p2, Y⟩) := by
  unfold whirligigref22_with.f
  rw [if_pos (by simp; omega)]
  simp only [Option.bind_some, List.nil_append]
  rw [if_neg (by omega), if_pos h0, if_pos h1]
theorem with_add {T : List S65} (hT : T.length ≤ 1000000) (p0 p1 p2 : Int) (Y : List S47) : whirligigref22_with.f T (T.length : Int) p0 p1 p2 Y = some (T ++ [⟨p0, p1, p2, Y⟩]) := by
  unfold whirligigref22_with.f
  rw [if_pos (by simp; omega)]
  simp only [Option.bind_some, List.nil_append]
  rw [if_pos trivial, if_pos (by omega)]
theorem refGrow_ev {t : List S43} (h : okT t) (b : Int) : Ev (fun k => whirligigref22_Grow.f k (t.map b65) b) ((growL t b).1.map b65, (growL t b).2) := by
  have hs := okT_small h
  have hT : (t.map b65).length = t.length := List.length_map ..
  unfold whirligigref22_Grow.f growL
  have hout : ¬ (0 ≤ b ∧ b < (t.length : Int)) → Ev (fun k => whirligigref22_Grow.j0 k (t.map b65) b true) (t.map b65, 12) := fun _ => Ev.succ (by
    simp only [whirligigref22_Grow.j0]
    exact Ev.pos trivial (Ev.some rfl))
  by_cases hb : 0 ≤ b ∧ b < (t.length : Int)
  · rw [if_pos hb]
    obtain ⟨n, rfl⟩ := Int.eq_ofNat_of_zero_le hb.1
    have hn : n < t.length := by omega
    have hl := okT_len h (List.getElem_mem hn)
    refine Ev.neg (by omega) ?_
    rw [decide_eq_false (by omega)]
    refine Ev.succ ?_
    simp only [whirligigref22_Grow.j0]
    rw [rd65b hn, rd43 hn]
    refine Ev.neg (by decide) (Ev.pos (by omega) (Ev.pos (by omega) ?_))
    by_cases h2 : t[n].f2 ≥ 512
    · rw [if_pos h2]
      exact Ev.pos (show t[n].f2 = 512 by omega) (Ev.some rfl)
    · rw [if_neg h2]
      refine Ev.neg (show ¬ t[n].f2 = 512 by omega) (Ev.bind_some (with_set (by have := hs.1; omega) (by omega) (by omega) _ _ _ _) (Ev.some ?_))
      rw [show wrap64 ((b65 t[n]).f2 + 1) = t[n].f2 + 1 from wrap_at (show -9223372036854775808 ≤ t[n].f2 + 1 by omega) (show t[n].f2 + 1 ≤ 9223372036854775807 by omega)]
      dsimp only
      rw [List.map_set]
      rfl
  · rw [if_neg hb]
    by_cases h0 : b < 0
    · exact Ev.pos h0 (hout hb)
    · refine Ev.neg h0 ?_
      rw [decide_eq_true (by omega)]
      exact hout hb
theorem putLoop {t : List S43} {xs : List S45} {b at_ p0 p1 p2 x1 x3 : Int} {x2 : ByteArray} (hx : xs.length ≤ 1000000) {R : List S65 × Int × Int}
    (hfin : (if at_ = p2 then ((whirligigref22_with.f (t.map b65) b p0 p1 (wrap64 (at_ + 1)) ((ahead at_ xs).map i47 ++ [⟨at_, x1, x2, x3⟩])).bind fun t595 => (some (t595, b, (0 : Int)))) else (if ((t.map b65).length : Int) = 8 then (some (t.map b65, 0, 42)) else ((whirligigref22_with.f (t.map b65) ((t.map b65).length : Int) b at_ (wrap64 (at_ + 1)) ((ahead at_ xs).map i47 ++ [⟨at_, x1, x2, x3⟩])).bind fun t598 => (some (t598, ((t.map b65).length : Int), 0))))) = some R) : ∀ (d j : Nat), j ≤ xs.length → xs.length - j = d →
    Ev (fun k => whirligigref22_Put.l0 k (t.map b65) b at_ ((ahead at_ (xs.take j)).map i47) (j : Int) at_ x1 x2 x3 p0 p1 p2 (xs.map i47)) R := by
  have hlen : ∀ j, ((ahead at_ (xs.take j)).map i47).length ≤ 1000000 := fun j => by
    rw [List.length_map]
    have h1 : (ahead at_ (xs.take j)).length ≤ (xs.take j).length := List.length_filter_le _ _
    rw [List.length_take] at h1
    omega
  intro d
  induction d with
  | zero =>
    intro j hj hd
    obtain rfl : j = xs.length := by omega
    have hl := hlen xs.length
    refine Ev.succ ?_
    simp only [whirligigref22_Put.l0]
    rw [List.take_length] at hl ⊢
    exact Ev.neg (by simp) (Ev.pos (by omega) (Ev.bind_some rfl (Ev.const fun _ => hfin)))
  | succ d ih =>
    intro j hj hd
    have hjl : j < xs.length := by omega
    have hi := ih (j + 1) (by omega) (by omega)
    have hl := hlen j
    have hstep : ahead at_ (xs.take (j + 1)) = ahead at_ (xs.take j) ++ (if xs[j].f0 < at_ then [xs[j]] else []) := by
      unfold ahead
      rw [List.take_add_one, List.getElem?_eq_getElem hjl, List.filter_append]
      congr 1
      by_cases g : xs[j].f0 < at_ <;> simp [g]
    have hrd : rd_T47 (xs.map i47) (j : Int) = i47 xs[j] := by
      rw [rd47 (by simpa using hjl), List.getElem_map]
    rw [hstep] at hi
    refine Ev.succ ?_
    simp only [whirligigref22_Put.l0]
    rw [hrd, wrap_at (x := (j : Int) + 1) (by omega) (by omega), show (j : Int) + 1 = ((j + 1 : Nat) : Int) by omega]
    refine Ev.pos (by simp; omega) (Ev.pos (by omega) ?_)
    by_cases g : xs[j].f0 < at_
    · rw [if_pos g, List.map_append] at hi
      exact Ev.pos (show (i47 xs[j]).f0 < at_ from g) (Ev.pos (by omega) hi)
    · rw [if_neg g, List.append_nil] at hi
      exact Ev.neg (show ¬ (i47 xs[j]).f0 < at_ from g) hi
theorem rightI_at (x : S45) (a : Int) : rightI (inAt x a) = rightI x := rfl
theorem refPut_ev {t : List S43} (h : okT t) (b at_ : Int) (x : S45) (hx : x.f2.size ≤ 200) : Ev (fun k => whirligigref22_Put.f k (t.map b65) b at_ x.f0 x.f1 x.f2 x.f3) ((putL t b at_ x).1.map b65, (putL t b at_ x).2.1, (putL t b at_ x).2.2) := by
  have hs := okT_small h
  have hT : (t.map b65).length = t.length := List.length_map ..
  unfold whirligigref22_Put.f putL
  have hout : Ev (fun k => whirligigref22_Put.j0 k (t.map b65) b at_ true x.f0 x.f1 x.f2 x.f3) (t.map b65, 0, 12) := Ev.succ (by
    simp only [whirligigref22_Put.j0]
    exact Ev.pos trivial (Ev.some rfl))
  by_cases hb : 0 ≤ b ∧ b < (t.length : Int)
  rotate_left
  · rw [if_neg hb]
    by_cases h0 : b < 0
    · exact Ev.pos h0 hout
    · refine Ev.neg h0 ?_
      rw [decide_eq_true (by omega)]
      exact hout
  rw [if_pos hb]
  obtain ⟨n, rfl⟩ := Int.eq_ofNat_of_zero_le hb.1
  have hn : n < t.length := by omega
  have hg := okT_good h (List.getElem_mem hn)
  have hl := okT_len h (List.getElem_mem hn)
  refine Ev.neg (by omega) ?_
  rw [decide_eq_false (by omega)]
  refine Ev.succ ?_
  simp only [whirligigref22_Put.j0]
  rw [rd65b hn, rd43 hn]
  refine Ev.neg (by decide) ?_
  have h10 : Ev (fun k => whirligigref22_Put.j1 k (t.map b65) (n : Int) at_ true x.f0 x.f1 x.f2 x.f3) (t.map b65, 0, 10) := Ev.succ (by
    simp only [whirligigref22_Put.j1]
    exact Ev.pos trivial (Ev.some rfl))
  by_cases h1 : at_ < 0
  · rw [if_pos (Or.inl h1)]
    exact Ev.pos h1 h10
  refine Ev.neg h1 (Ev.pos (by omega) (Ev.pos (by omega) ?_))
  by_cases h2 : at_ > t[n].f2
  · rw [if_pos (Or.inr h2), decide_eq_true (show at_ > (b65 t[n]).f2 from h2)]
    exact h10
  rw [if_neg (fun e => e.elim h1 h2), decide_eq_false (show ¬ at_ > (b65 t[n]).f2 from h2), rightI_at]
  refine Ev.succ ?_
  simp only [whirligigref22_Put.j1]
  refine Ev.neg (by decide) (Ev.bind (refRightInput_ev x (by omega)) ?_)
  cases hr : rightI x with
  | false =>
    rw [if_pos rfl]
    exact Ev.neg (by decide) (Ev.some rfl)
  | true =>
    rw [if_neg (by decide)]
    refine Ev.pos rfl ?_
    by_cases h3 : at_ ≥ 512
    · rw [if_pos h3]
      exact Ev.pos (by omega) (Ev.some rfl)
    rw [if_neg h3, rd65b hn]
    refine Ev.neg (by omega) (Ev.pos (by omega) (Ev.pos (by omega) ?_))
    have hxs : t[n].f3.length ≤ 1000000 := (hs.2 _ (List.getElem_mem hn)).1
    have hw : wrap64 (at_ + 1) = at_ + 1 := wrap_at (by omega) (by omega)
    refine putLoop (t := t) (xs := t[n].f3) (b := (n : Int)) (at_ := at_) (p0 := t[n].f0) (p1 := t[n].f1) (p2 := t[n].f2) (x1 := x.f1) (x2 := x.f2) (x3 := x.f3) hxs ?_ t[n].f3.length 0 (by omega) (by omega)
    rw [hw]
    by_cases h4 : at_ < t[n].f2
    · rw [if_pos h4, if_neg (by omega)]
      by_cases h8 : (t.length : Int) ≥ 8
      · have := (rightTree_iff.1 h.1).2.1
        rw [if_pos h8, if_pos (by omega)]
      · rw [if_neg h8, if_neg (by omega), with_add (by have := hs.1; omega)]
        simp only [Option.bind_some, hT]
        rw [List.map_append]
        simp [b65, i47, inAt]
    · have e : at_ = t[n].f2 := by omega
      rw [if_neg h4, if_pos e, with_set (by have := hs.1; omega) (by omega) (by omega)]
      simp only [Option.bind_some]
      rw [List.map_set]
      have hall : ahead at_ t[n].f3 = t[n].f3 := ahead_all (fun y hy => by
        have := rising_mem (goodB_iff.1 hg).2.2 y hy
        omega)
      rw [hall]
      simp [b65, i47, inAt]
theorem equal_self (xs : List S45) (hx : xs.length ≤ 1000000) : Ev (fun k => tree_Input.f k xs xs) true := by
  have := equal_ev xs xs hx
  rw [eqL_iff.2 rfl] at this
  exact this
theorem Same_l0 (t : List S43) (hs : smallT t) : ∀ (d j : Nat), j ≤ t.length → t.length - j = d → Ev (fun k => tree_Branch_same.l0 k t t (t.length : Int) (j : Int)) true := by
  have hl := hs.1
  intro d
  induction d with
  | zero =>
    intro j hj hd
    refine Ev.succ ?_
    simp only [tree_Branch_same.l0]
    exact Ev.neg (by omega) (Ev.some rfl)
  | succ d ih =>
    intro j hj hd
    have hjl : j < t.length := by omega
    refine Ev.succ ?_
    simp only [tree_Branch_same.l0]
    rw [rd43 hjl, wrap_at (x := (j : Int) + 1) (by omega) (by omega), show (j : Int) + 1 = ((j + 1 : Nat) : Int) by omega]
    refine Ev.pos (by omega) (Ev.pos (by omega) (Ev.pos (by omega) (Ev.pos (by omega) (Ev.bind (a := true) ?_ (Ev.pos rfl (ih (j + 1) (by omega) (by omega)))))))
    unfold tree_Tree_Same_1.f
    exact Ev.pos rfl (Ev.pos rfl (Ev.pos rfl (Ev.bind (equal_self _ (hs.2 _ (List.getElem_mem hjl)).1) (Ev.some rfl))))
theorem Same_self (t : List S43) (hs : smallT t) : Ev (fun k => tree_Tree_Same.f k t t) true := by
  unfold tree_Tree_Same.f tree_Branch_same.f
  refine Ev.bind (a := true) ?_ (Ev.some rfl)
  exact Ev.pos rfl (Same_l0 t hs t.length 0 (by omega) (by omega))
theorem same_l1 (T : List S65) (hT : T.length ≤ 1000000) (j : Nat) (hj : j < T.length) (hx : T[j].f3.length ≤ 1000000) (i1 i2 : Int) {r : Bool} (hnext : Ev (fun k => whirligiglaw22_same.l0 k T T i1 (wrap64 (i2 + 1))) r) : ∀ (d m : Nat), m ≤ T[j].f3.length → T[j].f3.length - m = d →
    Ev (fun k => whirligiglaw22_same.l1 k T T (j : Int) i1 i2 (T[j].f3.length : Int) (m : Int)) r := by
  intro d
  induction d with
  | zero =>
    intro m hm hd
    refine Ev.succ ?_
    simp only [whirligiglaw22_same.l1]
    exact Ev.neg (by omega) hnext
  | succ d ih =>
    intro m hm hd
    refine Ev.succ ?_
    simp only [whirligiglaw22_same.l1]
    rw [rd65 hj, wrap_at (x := (m : Int) + 1) (by omega) (by omega), show (m : Int) + 1 = ((m + 1 : Nat) : Int) by omega]
    exact Ev.pos (by omega) (Ev.pos (by omega) (Ev.pos (by omega) (Ev.pos (by omega) (Ev.pos (by omega) (Ev.pos (by omega) (Ev.pos (by omega) (Ev.neg (by simp) (ih (m + 1) (by omega) (by omega)))))))))
theorem same_l0 (T : List S65) (hT : T.length ≤ 1000000) (hx : ∀ b ∈ T, b.f3.length ≤ 1000000) : ∀ (d j : Nat), j ≤ T.length → T.length - j = d → Ev (fun k => whirligiglaw22_same.l0 k T T (T.length : Int) (j : Int)) true := by
  intro d
  induction d with
  | zero =>
    intro j hj hd
    refine Ev.succ ?_
    simp only [whirligiglaw22_same.l0]
    exact Ev.neg (by omega) (Ev.some rfl)
  | succ d ih =>
    intro j hj hd
    have hjl : j < T.length := by omega
    have hi := ih (j + 1) (by omega) (by omega)
    refine Ev.succ ?_
    simp only [whirligiglaw22_same.l0]
    rw [rd65 hjl]
    refine Ev.pos (by omega) (Ev.pos (by omega) (Ev.pos (by omega) (Ev.pos (by omega) (Ev.pos trivial (Ev.pos trivial (Ev.pos trivial ?_))))))
    rw [bne_self_eq_false]
    refine Ev.succ ?_
    simp only [whirligiglaw22_same.j1]
    rw [rd65 hjl]
    refine Ev.neg (by decide) (Ev.pos (by omega) (Ev.pos (by omega) ?_))
    refine same_l1 T hT j hjl (hx _ (List.getElem_mem hjl)) _ _ ?_ T[j].f3.length 0 (by omega) (by omega)
    rw [wrap_at (x := (j : Int) + 1) (by omega) (by omega), show (j : Int) + 1 = ((j + 1 : Nat) : Int) by omega]
    exact hi
theorem same_ev {t : List S43} (hs : smallT t) : Ev (fun k => whirligiglaw22_same.f k t (t.map b65)) true := by
  unfold whirligiglaw22_same.f
  refine Ev.bind (refs_ev t hs) (Ev.pos rfl ?_)
  exact same_l0 (t.map b65) (by rw [List.length_map]; exact hs.1) (fun b hb => by
    obtain ⟨c, hc, rfl⟩ := List.mem_map.1 hb
    show (c.f3.map i47).length ≤ 1000000
    rw [List.length_map]
    exact (hs.2 c hc).1) (t.map b65).length 0 (by omega) (by omega)
theorem plays_j1 {t was : List S43} (h : okT t) (b f : Int) (l : List S56) (j : Nat) (hj : j ≤ 700) (hw : f ≠ 0 → was = t) (hnext : Ev (fun k => whirligiglaw22_TreePlays.l0 k t (t.map b65) l (l.length : Int) ((j + 1 : Nat) : Int)) true) :
    Ev (fun k => whirligiglaw22_TreePlays.j1 k t (t.map b65) was b b f f l (l.length : Int) (j : Int)) true := by
  have hs := okT_small h
  refine Ev.succ ?_
  simp only [whirligiglaw22_TreePlays.j1]
  rw [wrap_at (x := (j : Int) + 1) (by omega) (by omega), show (j : Int) + 1 = ((j + 1 : Nat) : Int) by omega]
  refine Ev.pos trivial (Ev.pos trivial (Ev.bind (same_ev hs) (Ev.pos rfl ?_)))
  by_cases hf : f = 0
  · exact Ev.pos hf hnext
  · have := hw hf
    subst this
    exact Ev.neg hf (Ev.bind (Same_self _ hs) (Ev.pos rfl hnext))
theorem plays_l0 (l : List S56) (hl : l.length ≤ 700) (hsm : smallO l = true) (d : Nat) : ∀ (j : Nat) (t : List S43), okT t → j ≤ l.length → l.length - j = d →
    Ev (fun k => whirligiglaw22_TreePlays.l0 k t (t.map b65) l (l.length : Int) (j : Int)) true := by
  induction d with
  | zero =>
    intro j t ht hj hd
    have hs := okT_small ht
    have hR := right_ev t hs
    have hR2 := refRight_ev t hs
    rw [ht.1] at hR hR2
    refine Ev.succ ?_
    simp only [whirligiglaw22_TreePlays.l0]
    exact Ev.neg (by omega) (Ev.bind hR (Ev.pos rfl (Ev.bind hR2 (Ev.pos rfl (Ev.bind_some (copy_small hs) (Ev.bind (Same_self t hs) (Ev.some rfl)))))))
  | succ d ih =>
    intro j t ht hj hd
    have hjl : j < l.length := by omega
    have hname := smallO_mem hsm (List.getElem_mem hjl)
    have hnext := ih (j + 1) (opL t l[j]) (okT_op ht hname) (by omega) (by omega)
    unfold opL at hnext
    refine Ev.succ ?_
    simp only [whirligiglaw22_TreePlays.l0]
    rw [rd56 hjl]
    refine Ev.pos (by omega) (Ev.pos (by omega) (Ev.pos (by omega) ?_))
    by_cases h1 : l[j].f0 = 1
    · rw [if_pos h1] at hnext
      refine Ev.pos h1 (Ev.bind_some (grow_ok ht _) (Ev.bind (refGrow_ev ht _) (plays_j1 (okT_grow ht _) 0 _ l j (by omega) (fun hf => ?_) hnext)))
      unfold growL at hf ⊢
      split at hf
      · rename_i hb
        rw [if_pos hb]
        split at hf
        · rename_i h5; rw [if_pos h5]
        · exact absurd rfl hf
      · rename_i hb; rw [if_neg hb]
    · rw [if_neg h1] at hnext
      refine Ev.neg h1 ?_
      by_cases h2 : l[j].f0 = 2
      · rw [if_pos h2] at hnext
        refine Ev.pos h2 (Ev.bind (put_ok ht _ _ _ hname) (Ev.bind (refPut_ev ht _ _ _ hname) (plays_j1 (okT_put ht _ _ hname) _ _ l j (by omega) (fun hf => ?_) hnext)))
        unfold putL at hf ⊢
        repeat' split at hf
        all_goals first
          | (exact absurd rfl hf)
          | (simp [*])
      · rw [if_neg h2] at hnext
        exact Ev.neg h2 (plays_j1 ht 0 0 l j (by omega) (fun hf => absurd rfl hf) hnext)
theorem TreePlays_ev (l : List S56) (o : l.length ≤ maxLen ∧ ∀ x ∈ l, Opn.I64 x.f0 ∧ Opn.I64 x.f1 ∧ Opn.I64 x.f2 ∧ (Opn.I64 x.f3.f0 ∧ Opn.I64 x.f3.f1 ∧ x.f3.f2.size ≤ maxLen ∧ Opn.I64 x.f3.f3)) : Ev (fun k => whirligiglaw22_TreePlays.f k l) true := by
  have hl := o.1
  unfold maxLen at hl
  unfold whirligiglaw22_TreePlays.f
  refine Ev.bind anchor22_ev (Ev.pos rfl (Ev.bind (smallOp_ev l hl) ?_))
  cases hs : smallO l with
  | false => exact Ev.neg (by simp) (Ev.some rfl)
  | true =>
    by_cases h7 : l.length ≤ 700
    · rw [decide_eq_true h7]
      refine Ev.pos rfl (Ev.bind_some (show tree_New.f = some [⟨-1, 0, 0, []⟩] from rfl) (Ev.bind_some rfl (Ev.bind (same_ev (okT_small okT_new)) (Ev.pos rfl ?_))))
      exact plays_l0 l h7 hs _ 0 _ okT_new (by omega) rfl
    · rw [decide_eq_false h7]
      exact Ev.neg (by simp) (Ev.some rfl)
end Go.Proofs.YtbngfhlciebeeaaDoor.Sp
