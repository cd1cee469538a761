/- Printed and hand-written steps towards the row (TreeEnds), those that it reaches. -/
import Derived.Test.YtbngfhlciebeeaaDoorTreeEndsG23
import Derived.Test.YtbngfhlciebeeaaDoorTreeEndsG5
import Derived.Test.YtbngfhlciebeeaaDoorTreeEndsG6
import Derived.Test.YtbngfhlciebeeaaDoorTreeEndsLxf32
import Derived.Test.YtbngfhlciebeeaaDoorTreeEndsLxf41
import Derived.Test.YtbngfhlciebeeaaDoorTreeEndsLxf40
import Derived.KernelRfl
section
namespace Go.Proofs.YtbngfhlciebeeaaDoor.Sp
set_option linter.unusedVariables false
set_option linter.unusedSimpArgs false
open Go.RowKit Go.Proofs.YtbngfhlciebeeaaDoor.L Go.Proofs.YtbngfhlciebeeaaDoorW.PrintWords
theorem copy_eq {l : List S43} (h1 : l.length ≤ 1000000) (h2 : ∀ x ∈ l, x.f3.length ≤ 1000000) : tree_Tree_Copy.f l = some l := by
  unfold tree_Tree_Copy.f
  exact if_pos ⟨by omega, fun x hx => by have := h2 x hx; omega⟩
theorem copy_small {l : List S43} (hs : smallT l) : tree_Tree_Copy.f l = some l := copy_eq hs.1 fun x hx => (hs.2 x hx).1
theorem has_in {l : List S43} {b : Int} (h : 0 ≤ b ∧ b < (l.length : Int)) : tree_Tree_has.f l b = some true := by
  unfold tree_Tree_has.f
  rw [if_pos h.1, decide_eq_true h.2]
theorem has_out {l : List S43} {b : Int} (h : ¬ (0 ≤ b ∧ b < (l.length : Int))) : tree_Tree_has.f l b = some false := by
  unfold tree_Tree_has.f
  by_cases h1 : b ≥ 0
  · rw [if_pos h1, decide_eq_false (fun h2 => h ⟨h1, h2⟩)]
  · rw [if_neg h1]
def growL (l : List S43) (b : Int) : List S43 × Int :=
  if 0 ≤ b ∧ b < (l.length : Int) then
    (if (rd_T43 l b).f2 ≥ 512 then (l, 41) else (l.set b.toNat ⟨(rd_T43 l b).f0, (rd_T43 l b).f1, (rd_T43 l b).f2 + 1, (rd_T43 l b).f3⟩, 0))
  else (l, 12)
theorem grow_eq {l : List S43} (hs : smallT l) (hl : ∀ b ∈ l, 0 ≤ b.f2) (b : Int) : tree_Tree_Grow.f l b = some (growL l b) := by
  unfold tree_Tree_Grow.f growL
  rw [copy_small hs]
  by_cases h : 0 ≤ b ∧ b < (l.length : Int)
  · obtain ⟨n, rfl⟩ := Int.eq_ofNat_of_zero_le h.1
    have hn : n < l.length := by omega
    have h0 := hl l[n] (List.getElem_mem hn)
    rw [has_in h, if_pos h]
    simp only [Option.bind_some, rd43 hn]
    rw [if_pos trivial, if_pos h.1, if_pos h.2]
    by_cases h2 : l[n].f2 ≥ 512
    · rw [if_pos h2, if_pos h2]
    · rw [if_neg h2, if_neg h2, if_pos h.2, wrap_at (by omega) (by omega)]
  · rw [has_out h, if_neg h]
    simp only [Option.bind_some]
    rw [if_neg (by decide)]
def inAt (x : S45) (at_ : Int) : S45 := ⟨at_, x.f1, x.f2, x.f3⟩
def putL (l : List S43) (b at_ : Int) (x : S45) : List S43 × Int × Int :=
  if 0 ≤ b ∧ b < (l.length : Int) then
    (if at_ < 0 ∨ at_ > (rd_T43 l b).f2 then (l, 0, 10)
    else if rightI (inAt x at_) = false then (l, 0, 11)
    else if at_ ≥ 512 then (l, 0, 41)
    else if at_ < (rd_T43 l b).f2 then
      (if (l.length : Int) ≥ 8 then (l, 0, 42) else (l ++ [⟨b, at_, at_ + 1, ahead at_ (rd_T43 l b).f3 ++ [inAt x at_]⟩], (l.length : Int), 0))
    else (l.set b.toNat ⟨(rd_T43 l b).f0, (rd_T43 l b).f1, at_ + 1, (rd_T43 l b).f3 ++ [inAt x at_]⟩, b, 0))
  else (l, 0, 12)
theorem put_j1 {l : List S43} (hs : smallT l) {n : Nat} (hn : n < l.length) {at_ : Int} (h0 : 0 ≤ at_) (h1 : at_ < 512) (x : S45) :
    Ev (fun k => tree_Tree_Put.j1 k l (n : Int) at_ at_ x.f1 x.f2 x.f3)
      (if at_ < l[n].f2 then (l ++ [⟨(n : Int), at_, at_ + 1, ahead at_ l[n].f3 ++ [inAt x at_]⟩], (l.length : Int), 0) else (l.set n ⟨l[n].f0, l[n].f1, at_ + 1, l[n].f3 ++ [inAt x at_]⟩, (n : Int), 0)) := by
  have hsz := hs.1
  have hb := hs.2 l[n] (List.getElem_mem hn)
  refine Ev.succ ?_
  simp only [tree_Tree_Put.j1]
  rw [copy_small hs]
  refine Ev.bind_some rfl (Ev.pos (by omega) (Ev.pos (by omega) ?_))
  rw [rd43 hn]
  by_cases h : at_ < l[n].f2
  · rw [if_pos h]
    refine Ev.pos h (Ev.bind (ahead_ev _ _ _ _ _ hb.1) (Ev.pos (by omega) (Ev.bind_some rfl ?_)))
    have hal : (ahead at_ l[n].f3).length ≤ 1000000 := by
      unfold ahead
      exact Nat.le_trans (List.length_filter_le _ _) hb.1
    generalize ahead at_ l[n].f3 = ah at hal ⊢
    have hlen : ((l ++ [(⟨(n : Int), at_, 0, ah⟩ : S43)]).length : Int) = (l.length : Int) + 1 := by simp
    have hw : wrap64 ((l.length : Int) + 1 - 1) = (l.length : Int) := by rw [wrap_at (by omega) (by omega)]; omega
    have hlen2 : l.length < (l ++ [(⟨(n : Int), at_, 0, ah⟩ : S43)]).length := by simp
    have hr : rd_T43 (l ++ [(⟨(n : Int), at_, 0, ah⟩ : S43)]) (l.length : Int) = ⟨(n : Int), at_, 0, ah⟩ := by rw [rd43 hlen2]; simp
    simp only [hlen, hw, hr]
    refine Ev.pos (by omega) (Ev.pos (by omega) (Ev.pos (by omega) (Ev.bind_some rfl ?_)))
    simp only [Int.toNat_natCast]
    have hset : ∀ y : S43, (l ++ [(⟨(n : Int), at_, 0, ah⟩ : S43)]).set l.length y = l ++ [y] := fun y => by
      rw [List.set_append_right _ _ (Nat.le_refl _), Nat.sub_self]; rfl
    rw [hset]
    have hlen3 : l.length < (l ++ [(⟨(n : Int), at_, 0, ah ++ [(⟨at_, x.f1, x.f2, x.f3⟩ : S45)]⟩ : S43)]).length := by simp
    have hr3 : rd_T43 (l ++ [(⟨(n : Int), at_, 0, ah ++ [(⟨at_, x.f1, x.f2, x.f3⟩ : S45)]⟩ : S43)]) (l.length : Int) = ⟨(n : Int), at_, 0, ah ++ [⟨at_, x.f1, x.f2, x.f3⟩]⟩ := by rw [rd43 hlen3]; simp
    refine Ev.some ?_
    rw [hr3, wrap_at (by omega) (by omega), List.set_append_right _ _ (Nat.le_refl _), Nat.sub_self]
    rfl
  · rw [if_neg h]
    refine Ev.neg h (Ev.pos (by omega) (Ev.pos (by omega) (Ev.bind_some rfl (Ev.some ?_))))
    have hl2 : n < (l.set n (⟨l[n].f0, l[n].f1, l[n].f2, l[n].f3 ++ [(⟨at_, x.f1, x.f2, x.f3⟩ : S45)]⟩ : S43)).length := by rw [List.length_set]; exact hn
    simp only [Int.toNat_natCast]
    rw [rd43 hl2, wrap_at (by omega) (by omega), List.getElem_set_self, List.set_set]
    rfl
theorem put_ev {l : List S43} (hs : smallT l) (b at_ : Int) (x : S45) (hx : x.f2.size ≤ 1000000) : Ev (fun k => tree_Tree_Put.f k l b at_ x.f0 x.f1 x.f2 x.f3) (putL l b at_ x) := by
  have hc := copy_small hs
  unfold tree_Tree_Put.f putL
  by_cases h : 0 ≤ b ∧ b < (l.length : Int)
  · obtain ⟨n, rfl⟩ := Int.eq_ofNat_of_zero_le h.1
    have hn : n < l.length := by omega
    rw [if_pos h, rd43 hn]
    refine Ev.bind_some (has_in h) (Ev.pos rfl ?_)
    have hj0 : Ev (fun k => tree_Tree_Put.j0 k l (n : Int) at_ true at_ x.f1 x.f2 x.f3) (l, 0, 10) := by
      refine Ev.succ ?_
      simp only [tree_Tree_Put.j0]
      exact Ev.pos trivial (Ev.bind_some hc (Ev.some rfl))
    by_cases h1 : at_ < 0
    · rw [if_pos (Or.inl h1)]
      exact Ev.pos h1 hj0
    refine Ev.neg h1 (Ev.pos h.1 (Ev.pos h.2 ?_))
    by_cases h2 : at_ > l[n].f2
    · rw [if_pos (Or.inr h2), decide_eq_true h2]
      exact hj0
    rw [if_neg (by omega), decide_eq_false h2]
    refine Ev.succ ?_
    simp only [tree_Tree_Put.j0]
    have hi := inputRight_ev (inAt x at_) hx
    refine Ev.neg (by decide) (Ev.bind hi ?_)
    cases hr : rightI (inAt x at_) with
    | false =>
      rw [if_pos rfl]
      exact Ev.neg (by decide) (Ev.bind_some hc (Ev.some rfl))
    | true =>
      rw [if_neg (by decide)]
      refine Ev.pos rfl ?_
      by_cases h3 : at_ ≥ 512
      · rw [if_pos h3]
        exact Ev.pos h3 (Ev.bind_some hc (Ev.some rfl))
      rw [if_neg h3]
      have hj1 := put_j1 hs hn (show 0 ≤ at_ by omega) (show at_ < 512 by omega) x
      rw [rd43 hn]
      refine Ev.neg h3 (Ev.pos h.1 (Ev.pos h.2 ?_))
      by_cases h4 : at_ < l[n].f2
      · rw [if_pos h4] at hj1 ⊢
        refine Ev.pos h4 ?_
        by_cases h5 : (l.length : Int) ≥ 8
        · rw [if_pos h5]
          exact Ev.pos h5 (Ev.bind_some hc (Ev.some rfl))
        · rw [if_neg h5]
          exact Ev.neg h5 hj1
      · rw [if_neg h4] at hj1 ⊢
        exact Ev.neg h4 hj1
  · rw [if_neg h]
    exact Ev.bind_some (has_out h) (Ev.neg (by decide) (Ev.bind_some hc (Ev.some rfl)))
theorem small_one (a b c : Int) : smallT [⟨a, b, c, []⟩] := ⟨by simp, fun x hx => by
  rw [List.mem_singleton.1 hx]; exact ⟨by simp, fun y hy => by cases hy⟩⟩
theorem anchor22_ev : Ev (fun k => whirligiglaw22_anchor.f k) true := by
  unfold whirligiglaw22_anchor.f
  refine Ev.bind_some (show tree_New.f = some [⟨-1, 0, 0, []⟩] from rfl) ?_
  have hg : ∀ c : Int, 0 ≤ c → c < 512 → tree_Tree_Grow.f [⟨-1, 0, c, []⟩] 0 = some ([⟨-1, 0, c + 1, []⟩], 0) := fun c h0 h1 => by
    rw [grow_eq (small_one _ _ _) (fun b hb => by rw [List.mem_singleton.1 hb]; exact h0)]
    unfold growL
    rw [if_pos (by simp), show rd_T43 [(⟨-1, 0, c, []⟩ : S43)] 0 = ⟨-1, 0, c, []⟩ from rfl, if_neg (by simp only; omega)]
    rfl
  have w1 : wrap64 (0 + 1) = 1 := wrap_at (by omega) (by omega)
  have w2 : wrap64 (1 + 1) = 2 := wrap_at (by omega) (by omega)
  have w3 : wrap64 (2 + 1) = 3 := wrap_at (by omega) (by omega)
  refine Ev.succ ?_
  simp only [whirligiglaw22_anchor.l0, w1]
  refine Ev.pos (by omega) (Ev.bind_some (hg 0 (by omega) (by omega)) ?_)
  refine Ev.succ ?_
  simp only [whirligiglaw22_anchor.l0, w2]
  refine Ev.pos (by decide) (Ev.bind_some (hg (0 + 1) (by omega) (by omega)) ?_)
  refine Ev.succ ?_
  simp only [whirligiglaw22_anchor.l0, w3]
  refine Ev.pos (by decide) (Ev.bind_some (hg (0 + 1 + 1) (by omega) (by omega)) ?_)
  refine Ev.succ ?_
  simp only [whirligiglaw22_anchor.l0]
  refine Ev.neg (by decide) ?_
  have hp := put_ev (small_one (-1) 0 (0 + 1 + 1 + 1)) 0 1 ⟨0, 1, ⟨#[101]⟩, 0⟩ (by decide)
  rw [show putL [⟨-1, 0, 0 + 1 + 1 + 1, []⟩] 0 1 ⟨0, 1, ⟨#[101]⟩, 0⟩ = ([⟨-1, 0, 3, []⟩, ⟨0, 1, 2, [⟨1, 1, ⟨#[101]⟩, 0⟩]⟩], 1, 0) by kernel_rfl] at hp
  refine Ev.bind hp (Ev.pos rfl (Ev.pos rfl (Ev.pos rfl (Ev.pos (by decide) (Ev.pos rfl (Ev.pos (by decide) (Ev.pos rfl ?_)))))))
  have hr := right_ev [⟨-1, 0, 3, []⟩, ⟨0, 1, 2, [⟨1, 1, ⟨#[101]⟩, 0⟩]⟩] ⟨by simp, fun x hx => by
    simp only [List.mem_cons, List.not_mem_nil, or_false] at hx
    rcases hx with rfl | rfl
    · exact ⟨by simp, fun y hy => by cases hy⟩
    · exact ⟨by simp, fun y hy => by rw [List.mem_singleton.1 hy]; decide⟩⟩
  rw [show rightTree [⟨-1, 0, 3, []⟩, ⟨0, 1, 2, [⟨1, 1, ⟨#[101]⟩, 0⟩]⟩] = true by kernel_rfl] at hr
  exact Ev.bind hr (Ev.some rfl)
end Go.Proofs.YtbngfhlciebeeaaDoor.Sp
end
section
namespace Go.Proofs.YtbngfhlciebeeaaDoor.Sp
set_option linter.unusedVariables false
set_option linter.unusedSimpArgs false
open Go.RowKit Go.Proofs.YtbngfhlciebeeaaDoor.L Go.Proofs.YtbngfhlciebeeaaDoorW.PrintWords
theorem rightFrom_iff (l : List S43) : ∀ (bs : List S43) (i : Nat), rightFrom l i bs = true ↔ ∀ (j : Nat) (h : j < bs.length), branchOk l (i + j) bs[j] = true
  | [], i => by simp [rightFrom]
  | b :: bs, i => by
    simp only [rightFrom, Bool.and_eq_true]
    rw [rightFrom_iff l bs (i + 1)]
    constructor
    · rintro ⟨h0, h1⟩ j hj
      cases j with
      | zero => exact h0
      | succ j =>
        have := h1 j (by simpa using hj)
        rw [show i + 1 + j = i + (j + 1) by omega] at this
        simpa using this
    · intro h
      refine ⟨h 0 (by simp), fun j hj => ?_⟩
      have := h (j + 1) (by simpa using hj)
      rw [show i + (j + 1) = i + 1 + j by omega] at this
      simpa using this
theorem rightTree_iff {l : List S43} : rightTree l = true ↔ 1 ≤ l.length ∧ l.length ≤ 8 ∧ ∀ (j : Nat) (h : j < l.length), branchOk l j l[j] = true := by
  unfold rightTree
  rw [Bool.and_eq_true, Bool.and_eq_true, decide_eq_true_iff, decide_eq_true_iff, rightFrom_iff]
  simp
def nameB (b : S43) : Prop := ∀ x ∈ b.f3, x.f2.size ≤ 200
def okT (l : List S43) : Prop := rightTree l = true ∧ ∀ b ∈ l, nameB b
theorem goodB_iff {len : Int} {xs : List S45} : goodB len xs = true ↔ 0 ≤ len ∧ len ≤ 512 ∧ rising len (-1) xs = true := by
  unfold goodB
  simp [Bool.and_eq_true]
theorem branchOk_good {l : List S43} {i : Nat} {b : S43} (h : branchOk l i b = true) : goodB b.f2 b.f3 = true := by
  unfold branchOk at h
  rw [Bool.and_eq_true] at h
  exact h.1
theorem okT_good {l : List S43} (h : okT l) {b : S43} (hb : b ∈ l) : goodB b.f2 b.f3 = true := by
  obtain ⟨j, hj, rfl⟩ := List.getElem_of_mem hb
  exact branchOk_good ((rightTree_iff.1 h.1).2.2 j hj)
theorem okT_len {l : List S43} (h : okT l) {b : S43} (hb : b ∈ l) : 0 ≤ b.f2 ∧ b.f2 ≤ 512 := by
  have := goodB_iff.1 (okT_good h hb)
  exact ⟨this.1, this.2.1⟩
theorem okT_small {l : List S43} (h : okT l) : smallT l := by
  have h8 := (rightTree_iff.1 h.1).2.1
  refine ⟨by omega, fun b hb => ⟨?_, fun x hx => by have := h.2 b hb x hx; omega⟩⟩
  obtain ⟨h0, h1, h2⟩ := goodB_iff.1 (okT_good h hb)
  by_cases h3 : -1 < b.f2
  · have := rising_len h2 h3
    omega
  · omega
theorem forkedB_iff {l : List S43} {i : Nat} {b : S43} : forkedB l i b = true ↔ 0 ≤ b.f0 ∧ b.f0 < (i : Int) ∧ 0 ≤ b.f1 ∧ b.f1 < (rd_T43 l b.f0).f2 ∧ b.f1 < b.f2 ∧ hasAt b.f1 b.f3 = true ∧ ahead b.f1 b.f3 = ahead b.f1 (rd_T43 l b.f0).f3 := by
  unfold forkedB
  simp only [Bool.and_eq_true, decide_eq_true_iff, eqL_iff]
theorem branchOk_iff {l : List S43} {i : Nat} {b : S43} : branchOk l i b = true ↔ goodB b.f2 b.f3 = true ∧ (i = 0 → b.f0 = -1 ∧ b.f1 = 0) ∧ (i ≠ 0 → forkedB l i b = true) := by
  unfold branchOk
  rw [Bool.and_eq_true]
  by_cases h : i = 0
  · rw [if_pos h]; simp [h]
  · rw [if_neg h]; simp [h]
theorem rising_more {len len' : Int} (hle : len ≤ len') : ∀ {xs : List S45} {last : Int}, rising len last xs = true → rising len' last xs = true
  | [], _, _ => rfl
  | x :: xs, last, h => by
    obtain ⟨a, b, c, d⟩ := rising_cons.1 h
    exact rising_cons.2 ⟨a, b, by omega, rising_more hle d⟩
theorem rising_put {len a : Int} {x : S45} (hx : rightI x = true) (hf : x.f0 = a) : ∀ {xs : List S45} {last : Int}, rising len last xs = true → last < a → rising (a + 1) last (ahead a xs ++ [x]) = true
  | [], last, _, hl => by
    show rising (a + 1) last [x] = true
    exact rising_cons.2 ⟨hx, by omega, by omega, rfl⟩
  | y :: ys, last, h, hl => by
    obtain ⟨r0, r1, r2, r3⟩ := rising_cons.1 h
    by_cases hy : y.f0 < a
    · have e : ahead a (y :: ys) = y :: ahead a ys := by unfold ahead; rw [List.filter_cons_of_pos (by simpa using hy)]
      rw [e, List.cons_append]
      exact rising_cons.2 ⟨r0, r1, by omega, rising_put hx hf r3 hy⟩
    · have e : ahead a (y :: ys) = [] := ahead_none (len := len) (last := a - 1) (rising_cons.2 ⟨r0, by omega, r2, r3⟩) (by omega)
      rw [e]
      exact rising_cons.2 ⟨hx, by omega, by omega, rfl⟩
theorem ahead_all {a : Int} {xs : List S45} (h : ∀ x ∈ xs, x.f0 < a) : ahead a xs = xs := by
  unfold ahead
  rw [List.filter_eq_self]
  intro x hx
  simpa using h x hx
theorem ahead_snoc {a : Int} {xs : List S45} {x : S45} (h : a ≤ x.f0) : ahead a (xs ++ [x]) = ahead a xs := by
  unfold ahead
  rw [List.filter_append, List.filter_cons_of_neg (by simp; omega)]
  simp
theorem ahead_ahead {a : Int} {xs : List S45} : ahead a (ahead a xs) = ahead a xs := by
  unfold ahead
  rw [List.filter_filter]
  simp
theorem ahead_sub {a : Int} {xs : List S45} {x : S45} (h : x ∈ ahead a xs) : x ∈ xs := (List.mem_filter.1 h).1
theorem okT_set {l : List S43} (h : okT l) {n : Nat} (hn : n < l.length) {b : S43} (h0 : b.f0 = l[n].f0) (h1 : b.f1 = l[n].f1) (h2 : l[n].f2 ≤ b.f2) (hg : goodB b.f2 b.f3 = true) (hN : nameB b)
    (ha : ∀ a, a ≤ l[n].f2 → ahead a b.f3 = ahead a l[n].f3) (hh : ∀ a, hasAt a l[n].f3 = true → hasAt a b.f3 = true) : okT (l.set n b) := by
  obtain ⟨e1, e8, eb⟩ := rightTree_iff.1 h.1
  refine ⟨rightTree_iff.2 ⟨by simpa using e1, by simpa using e8, fun j hj => ?_⟩, fun c hc => ?_⟩
  · have hj' : j < l.length := by simpa using hj
    have hrd : ∀ p : Int, 0 ≤ p → p < (l.length : Int) → (rd_T43 l p).f2 ≤ (rd_T43 (l.set n b) p).f2 ∧ ∀ a, a ≤ (rd_T43 l p).f2 → ahead a (rd_T43 (l.set n b) p).f3 = ahead a (rd_T43 l p).f3 := by
      intro p p0 p1
      obtain ⟨m, rfl⟩ := Int.eq_ofNat_of_zero_le p0
      have hm : m < l.length := by omega
      rw [rd43 hm, rd43 (by simpa using hm), List.getElem_set]
      by_cases hmn : n = m
      · subst hmn
        rw [if_pos rfl]
        exact ⟨h2, ha⟩
      · rw [if_neg hmn]
        exact ⟨Int.le_refl _, fun _ _ => rfl⟩
    have hold := branchOk_iff.1 (eb j hj')
    have hcommon : ∀ c : S43, c.f0 = l[j].f0 → c.f1 = l[j].f1 → l[j].f2 ≤ c.f2 → goodB c.f2 c.f3 = true → (∀ a, a ≤ l[j].f2 → ahead a c.f3 = ahead a l[j].f3) → (∀ a, hasAt a l[j].f3 = true → hasAt a c.f3 = true) → branchOk (l.set n b) j c = true := by
      intro c c0 c1 c2 cg ca ch
      refine branchOk_iff.2 ⟨cg, fun hj0 => by rw [c0, c1]; exact hold.2.1 hj0, fun hj0 => ?_⟩
      obtain ⟨f0, f1, f2, f3, f4, f5, f6⟩ := forkedB_iff.1 (hold.2.2 hj0)
      obtain ⟨r1, r2⟩ := hrd l[j].f0 f0 (by omega)
      rw [forkedB_iff, c0, c1]
      exact ⟨f0, f1, f2, by omega, by omega, ch _ f5, by rw [ca _ (by omega), r2 _ (by omega), f6]⟩
    rw [List.getElem_set]
    by_cases hmn : n = j
    · subst hmn
      rw [if_pos rfl]
      exact hcommon b h0 h1 h2 hg ha hh
    · rw [if_neg hmn]
      exact hcommon l[j] rfl rfl (Int.le_refl _) hold.1 (fun _ _ => rfl) (fun _ h => h)
  · rcases List.mem_or_eq_of_mem_set hc with hc | rfl
    · exact h.2 c hc
    · exact hN
theorem okT_snoc {l : List S43} (h : okT l) (h8 : l.length < 8) {b : S43} (hg : goodB b.f2 b.f3 = true) (hN : nameB b) (hf : forkedB l l.length b = true) : okT (l ++ [b]) := by
  obtain ⟨e1, e8, eb⟩ := rightTree_iff.1 h.1
  have hrd : ∀ p : Int, 0 ≤ p → p < (l.length : Int) → rd_T43 (l ++ [b]) p = rd_T43 l p := by
    intro p p0 p1
    obtain ⟨m, rfl⟩ := Int.eq_ofNat_of_zero_le p0
    have hm : m < l.length := by omega
    rw [rd43 hm, rd43 (by simp; omega), List.getElem_append_left hm]
  have hsame : ∀ (j : Nat) (c : S43), j ≤ l.length → forkedB l j c = true → forkedB (l ++ [b]) j c = true := by
    intro j c hj hc
    obtain ⟨f0, f1, f2, f3, f4, f5, f6⟩ := forkedB_iff.1 hc
    rw [forkedB_iff, hrd _ f0 (by omega)]
    exact ⟨f0, f1, f2, f3, f4, f5, f6⟩
  refine ⟨rightTree_iff.2 ⟨by simp, by simp; omega, fun j hj => ?_⟩, fun c hc => ?_⟩
  · by_cases hjl : j < l.length
    · rw [List.getElem_append_left hjl]
      have hold := branchOk_iff.1 (eb j hjl)
      exact branchOk_iff.2 ⟨hold.1, hold.2.1, fun hj0 => hsame j _ (by omega) (hold.2.2 hj0)⟩
    · have hje : j = l.length := by simp at hj; omega
      subst hje
      rw [List.getElem_append_right (Nat.le_refl _)]
      simp only [Nat.sub_self, List.getElem_cons_zero]
      exact branchOk_iff.2 ⟨hg, fun h0 => by omega, fun _ => hsame _ _ (Nat.le_refl _) hf⟩
  · rcases List.mem_append.1 hc with hc | hc
    · exact h.2 c hc
    · rw [List.mem_singleton.1 hc]; exact hN
theorem okT_grow {l : List S43} (h : okT l) (b : Int) : okT (growL l b).1 := by
  unfold growL
  by_cases hb : 0 ≤ b ∧ b < (l.length : Int)
  · rw [if_pos hb]
    by_cases h5 : (rd_T43 l b).f2 ≥ 512
    · rw [if_pos h5]; exact h
    · rw [if_neg h5]
      obtain ⟨n, rfl⟩ := Int.eq_ofNat_of_zero_le hb.1
      have hn : n < l.length := by omega
      rw [rd43 hn] at h5 ⊢
      have hg := goodB_iff.1 (okT_good h (List.getElem_mem hn))
      exact okT_set h hn rfl rfl (by simp only; omega) (goodB_iff.2 ⟨by simp only; omega, by simp only; omega, rising_more (by simp only; omega) hg.2.2⟩) (fun y hy => h.2 _ (List.getElem_mem hn) y hy) (fun _ _ => rfl) (fun _ h => h)
  · rw [if_neg hb]; exact h
theorem hasAt_snoc {a : Int} {xs : List S45} {x : S45} : hasAt a xs = true → hasAt a (xs ++ [x]) = true := by
  rw [hasAt_iff, hasAt_iff]
  rintro ⟨y, hy, he⟩
  exact ⟨y, List.mem_append_left _ hy, he⟩
theorem okT_put {l : List S43} (h : okT l) (b at_ : Int) {x : S45} (hx : x.f2.size ≤ 200) : okT (putL l b at_ x).1 := by
  unfold putL
  by_cases hb : 0 ≤ b ∧ b < (l.length : Int)
  · rw [if_pos hb]
    obtain ⟨n, rfl⟩ := Int.eq_ofNat_of_zero_le hb.1
    have hn : n < l.length := by omega
    rw [rd43 hn]
    by_cases h1 : at_ < 0 ∨ at_ > l[n].f2
    · rw [if_pos h1]; exact h
    rw [if_neg h1]
    by_cases h2 : rightI (inAt x at_) = false
    · rw [if_pos h2]; exact h
    rw [if_neg h2]
    by_cases h3 : at_ ≥ 512
    · rw [if_pos h3]; exact h
    rw [if_neg h3]
    have hg := goodB_iff.1 (okT_good h (List.getElem_mem hn))
    have hr : rightI (inAt x at_) = true := by simpa using h2
    have hput : rising (at_ + 1) (-1) (ahead at_ l[n].f3 ++ [inAt x at_]) = true := rising_put hr rfl hg.2.2 (show -1 < at_ by omega)
    have hname : ∀ y ∈ l[n].f3, y.f2.size ≤ 200 := h.2 _ (List.getElem_mem hn)
    by_cases h4 : at_ < l[n].f2
    · rw [if_pos h4]
      by_cases h5 : (l.length : Int) ≥ 8
      · rw [if_pos h5]; exact h
      · rw [if_neg h5]
        refine okT_snoc h (by omega) (goodB_iff.2 ⟨by simp only; omega, by simp only; omega, hput⟩) (fun y hy => ?_) (forkedB_iff.2 ?_)
        · rcases List.mem_append.1 hy with hy | hy
          · exact hname y (ahead_sub hy)
          · rw [List.mem_singleton.1 hy]; exact hx
        · simp only
          rw [rd43 hn]
          refine ⟨by omega, by omega, by omega, h4, by omega, ?_, ?_⟩
          · rw [hasAt_iff]
            exact ⟨inAt x at_, List.mem_append_right _ (List.mem_singleton.2 rfl), rfl⟩
          · rw [ahead_snoc (show at_ ≤ (inAt x at_).f0 from Int.le_refl _), ahead_ahead]
    · rw [if_neg h4]
      have hat : at_ = l[n].f2 := by omega
      have hall : ahead at_ l[n].f3 = l[n].f3 := ahead_all fun y hy => by
        have := (rising_mem hg.2.2 y hy).2.2
        omega
      rw [hall] at hput
      refine okT_set h hn rfl rfl (by simp only; omega) (goodB_iff.2 ⟨by simp only; omega, by simp only; omega, hput⟩) (fun y hy => ?_) (fun a ha => ?_) (fun a ha => hasAt_snoc ha)
      · rcases List.mem_append.1 hy with hy | hy
        · exact hname y hy
        · rw [List.mem_singleton.1 hy]; exact hx
      · exact ahead_snoc (by show a ≤ at_; omega)
  · rw [if_neg hb]; exact h
theorem okT_new : okT [⟨-1, 0, 0, []⟩] := ⟨by decide, fun b hb => by rw [List.mem_singleton.1 hb]; intro x hx; cases hx⟩
end Go.Proofs.YtbngfhlciebeeaaDoor.Sp
end
