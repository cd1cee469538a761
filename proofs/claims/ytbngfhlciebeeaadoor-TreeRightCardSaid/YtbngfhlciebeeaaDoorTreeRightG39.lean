/- Printed and hand-written steps towards the row (TreeRight), those that it reaches. -/
import Derived.Test.YtbngfhlciebeeaaDoorTreeRightG38
import Derived.Test.YtbngfhlciebeeaaDoorTreeRightLxf32
import Derived.Test.YtbngfhlciebeeaaDoorTreeRightLxf41
import Derived.Test.YtbngfhlciebeeaaDoorTreeRightLxf40
import Derived.KernelRfl
import Derived.Test.YtbngfhlciebeeaaDoorTreeRightG30
import Derived.OpenShut
section
namespace Go.Proofs.YtbngfhlciebeeaaDoor.Sp
set_option linter.unusedVariables false
set_option linter.unusedSimpArgs false
open Go.RowKit Go.Proofs.YtbngfhlciebeeaaDoor.L Go.Proofs.YtbngfhlciebeeaaDoorW.PrintWords
theorem copy_eq {l : List S43} (h1 : l.length ≤ 1000000) (h2 : ∀ x ∈ l, x.f3.length ≤ 1000000) : tree_Tree_Copy.f l = some l := by
  unfold tree_Tree_Copy.f
  exact if_pos ⟨by omega, fun x hx => by have := h2 x hx; omega⟩
theorem copy_small {l : List S43} (hs : smallT l) : tree_Tree_Copy.f l = some l := copy_eq hs.1 fun x hx => (hs.2 x hx).1
theorem has_in {l : List S43} {b : Int} (h : 0 ≤ b ∧ b < (l.length : Int)) : tree_Tree_has.f l b = some true := by
  unfold tree_Tree_has.f
  rw [if_pos h.1, decide_eq_true h.2]
theorem has_out {l : List S43} {b : Int} (h : ¬ (0 ≤ b ∧ b < (l.length : Int))) : tree_Tree_has.f l b = some false := by
  unfold tree_Tree_has.f
  by_cases h1 : b ≥ 0
  · rw [if_pos h1, decide_eq_false (fun h2 => h ⟨h1, h2⟩)]
  · rw [if_neg h1]
def growL (l : List S43) (b : Int) : List S43 × Int :=
  if 0 ≤ b ∧ b < (l.length : Int) then
    (if (rd_T43 l b).f2 ≥ 512 then (l, 41) else (l.set b.toNat ⟨(rd_T43 l b).f0, (rd_T43 l b).f1, (rd_T43 l b).f2 + 1, (rd_T43 l b).f3⟩, 0))
  else (l, 12)
theorem grow_eq {l : List S43} (hs : smallT l) (hl : ∀ b ∈ l, 0 ≤ b.f2) (b : Int) : tree_Tree_Grow.f l b = some (growL l b) := by
  unfold tree_Tree_Grow.f growL
  rw [copy_small hs]
  by_cases h : 0 ≤ b ∧ b < (l.length : Int)
  · obtain ⟨n, rfl⟩ := Int.eq_ofNat_of_zero_le h.1
    have hn : n < l.length := by omega
    have h0 := hl l[n] (List.getElem_mem hn)
    rw [has_in h, if_pos h]
    simp only [Option.bind_some, rd43 hn]
    rw [if_pos trivial, if_pos h.1, if_pos h.2]
    by_cases h2 : l[n].f2 ≥ 512
    · rw [if_pos h2, if_pos h2]
    · rw [if_neg h2, if_neg h2, if_pos h.2, wrap_at (by omega) (by omega)]
  · rw [has_out h, if_neg h]
    simp only [Option.bind_some]
    rw [if_neg (by decide)]
def inAt (x : S45) (at_ : Int) : S45 := ⟨at_, x.f1, x.f2, x.f3⟩
def putL (l : List S43) (b at_ : Int) (x : S45) : List S43 × Int × Int :=
  if 0 ≤ b ∧ b < (l.length : Int) then
    (if at_ < 0 ∨ at_ > (rd_T43 l b).f2 then (l, 0, 10)
    else if rightI (inAt x at_) = false then (l, 0, 11)
    else if at_ ≥ 512 then (l, 0, 41)
    else if at_ < (rd_T43 l b).f2 then
      (if (l.length : Int) ≥ 8 then (l, 0, 42) else (l ++ [⟨b, at_, at_ + 1, ahead at_ (rd_T43 l b).f3 ++ [inAt x at_]⟩], (l.length : Int), 0))
    else (l.set b.toNat ⟨(rd_T43 l b).f0, (rd_T43 l b).f1, at_ + 1, (rd_T43 l b).f3 ++ [inAt x at_]⟩, b, 0))
  else (l, 0, 12)
theorem put_j1 {l : List S43} (hs : smallT l) {n : Nat} (hn : n < l.length) {at_ : Int} (h0 : 0 ≤ at_) (h1 : at_ < 512) (x : S45) :
    Ev (fun k => tree_Tree_Put.j1 k l (n : Int) at_ at_ x.f1 x.f2 x.f3)
      (if at_ < l[n].f2 then (l ++ [⟨(n : Int), at_, at_ + 1, ahead at_ l[n].f3 ++ [inAt x at_]⟩], (l.length : Int), 0) else (l.set n ⟨l[n].f0, l[n].f1, at_ + 1, l[n].f3 ++ [inAt x at_]⟩, (n : Int), 0)) := by
  have hsz := hs.1
  have hb := hs.2 l[n] (List.getElem_mem hn)
  refine Ev.succ ?_
  simp only [tree_Tree_Put.j1]
  rw [copy_small hs]
  refine Ev.bind_some rfl (Ev.pos (by omega) (Ev.pos (by omega) ?_))
  rw [rd43 hn]
  by_cases h : at_ < l[n].f2
  · rw [if_pos h]
    refine Ev.pos h (Ev.bind (ahead_ev _ _ _ _ _ hb.1) (Ev.pos (by omega) (Ev.bind_some rfl ?_)))
    have hal : (ahead at_ l[n].f3).length ≤ 1000000 := by
      unfold ahead
      exact Nat.le_trans (List.length_filter_le _ _) hb.1
    generalize ahead at_ l[n].f3 = ah at hal ⊢
    have hlen : ((l ++ [(⟨(n : Int), at_, 0, ah⟩ : S43)]).length : Int) = (l.length : Int) + 1 := by simp
    have hw : wrap64 ((l.length : Int) + 1 - 1) = (l.length : Int) := by rw [wrap_at (by omega) (by omega)]; omega
    have hlen2 : l.length < (l ++ [(⟨(n : Int), at_, 0, ah⟩ : S43)]).length := by simp
    have hr : rd_T43 (l ++ [(⟨(n : Int), at_, 0, ah⟩ : S43)]) (l.length : Int) = ⟨(n : Int), at_, 0, ah⟩ := by rw [rd43 hlen2]; simp
    simp only [hlen, hw, hr]
    refine Ev.pos (by omega) (Ev.pos (by omega) (Ev.pos (by omega) (Ev.bind_some rfl ?_)))
    simp only [Int.toNat_natCast]
    have hset : ∀ y : S43, (l ++ [(⟨(n : Int), at_, 0, ah⟩ : S43)]).set l.length y = l ++ [y] := fun y => by
      rw [List.set_append_right _ _ (Nat.le_refl _), Nat.sub_self]; rfl
    rw [hset]
    have hlen3 : l.length < (l ++ [(⟨(n : Int), at_, 0, ah ++ [(⟨at_, x.f1, x.f2, x.f3⟩ : S45)]⟩ : S43)]).length := by simp
    have hr3 : rd_T43 (l ++ [(⟨(n : Int), at_, 0, ah ++ [(⟨at_, x.f1, x.f2, x.f3⟩ : S45)]⟩ : S43)]) (l.length : Int) = ⟨(n : Int), at_, 0, ah ++ [⟨at_, x.f1, x.f2, x.f3⟩]⟩ := by rw [rd43 hlen3]; simp
    refine Ev.some ?_
    rw [hr3, wrap_at (by omega) (by omega), List.set_append_right _ _ (Nat.le_refl _), Nat.sub_self]
    rfl
  · rw [if_neg h]
    refine Ev.neg h (Ev.pos (by omega) (Ev.pos (by omega) (Ev.bind_some rfl (Ev.some ?_))))
    have hl2 : n < (l.set n (⟨l[n].f0, l[n].f1, l[n].f2, l[n].f3 ++ [(⟨at_, x.f1, x.f2, x.f3⟩ : S45)]⟩ : S43)).length := by rw [List.length_set]; exact hn
    simp only [Int.toNat_natCast]
    rw [rd43 hl2, wrap_at (by omega) (by omega), List.getElem_set_self, List.set_set]
    rfl
theorem put_ev {l : List S43} (hs : smallT l) (b at_ : Int) (x : S45) (hx : x.f2.size ≤ 1000000) : Ev (fun k => tree_Tree_Put.f k l b at_ x.f0 x.f1 x.f2 x.f3) (putL l b at_ x) := by
  have hc := copy_small hs
  unfold tree_Tree_Put.f putL
  by_cases h : 0 ≤ b ∧ b < (l.length : Int)
  · obtain ⟨n, rfl⟩ := Int.eq_ofNat_of_zero_le h.1
    have hn : n < l.length := by omega
    rw [if_pos h, rd43 hn]
    refine Ev.bind_some (has_in h) (Ev.pos rfl ?_)
    have hj0 : Ev (fun k => tree_Tree_Put.j0 k l (n : Int) at_ true at_ x.f1 x.f2 x.f3) (l, 0, 10) := by
      refine Ev.succ ?_
      simp only [tree_Tree_Put.j0]
      exact Ev.pos trivial (Ev.bind_some hc (Ev.some rfl))
    by_cases h1 : at_ < 0
    · rw [if_pos (Or.inl h1)]
      exact Ev.pos h1 hj0
    refine Ev.neg h1 (Ev.pos h.1 (Ev.pos h.2 ?_))
    by_cases h2 : at_ > l[n].f2
    · rw [if_pos (Or.inr h2), decide_eq_true h2]
      exact hj0
    rw [if_neg (by omega), decide_eq_false h2]
    refine Ev.succ ?_
    simp only [tree_Tree_Put.j0]
    have hi := inputRight_ev (inAt x at_) hx
    refine Ev.neg (by decide) (Ev.bind hi ?_)
    cases hr : rightI (inAt x at_) with
    | false =>
      rw [if_pos rfl]
      exact Ev.neg (by decide) (Ev.bind_some hc (Ev.some rfl))
    | true =>
      rw [if_neg (by decide)]
      refine Ev.pos rfl ?_
      by_cases h3 : at_ ≥ 512
      · rw [if_pos h3]
        exact Ev.pos h3 (Ev.bind_some hc (Ev.some rfl))
      rw [if_neg h3]
      have hj1 := put_j1 hs hn (show 0 ≤ at_ by omega) (show at_ < 512 by omega) x
      rw [rd43 hn]
      refine Ev.neg h3 (Ev.pos h.1 (Ev.pos h.2 ?_))
      by_cases h4 : at_ < l[n].f2
      · rw [if_pos h4] at hj1 ⊢
        refine Ev.pos h4 ?_
        by_cases h5 : (l.length : Int) ≥ 8
        · rw [if_pos h5]
          exact Ev.pos h5 (Ev.bind_some hc (Ev.some rfl))
        · rw [if_neg h5]
          exact Ev.neg h5 hj1
      · rw [if_neg h4] at hj1 ⊢
        exact Ev.neg h4 hj1
  · rw [if_neg h]
    exact Ev.bind_some (has_out h) (Ev.neg (by decide) (Ev.bind_some hc (Ev.some rfl)))
theorem small_one (a b c : Int) : smallT [⟨a, b, c, []⟩] := ⟨by simp, fun x hx => by
  rw [List.mem_singleton.1 hx]; exact ⟨by simp, fun y hy => by cases hy⟩⟩
theorem anchor22_ev : Ev (fun k => whirligiglaw22_anchor.f k) true := by
  unfold whirligiglaw22_anchor.f
  refine Ev.bind_some (show tree_New.f = some [⟨-1, 0, 0, []⟩] from rfl) ?_
  have hg : ∀ c : Int, 0 ≤ c → c < 512 → tree_Tree_Grow.f [⟨-1, 0, c, []⟩] 0 = some ([⟨-1, 0, c + 1, []⟩], 0) := fun c h0 h1 => by
    rw [grow_eq (small_one _ _ _) (fun b hb => by rw [List.mem_singleton.1 hb]; exact h0)]
    unfold growL
    rw [if_pos (by simp), show rd_T43 [(⟨-1, 0, c, []⟩ : S43)] 0 = ⟨-1, 0, c, []⟩ from rfl, if_neg (by simp only; omega)]
    rfl
  have w1 : wrap64 (0 + 1) = 1 := wrap_at (by omega) (by omega)
  have w2 : wrap64 (1 + 1) = 2 := wrap_at (by omega) (by omega)
  have w3 : wrap64 (2 + 1) = 3 := wrap_at (by omega) (by omega)
  refine Ev.succ ?_
  simp only [whirligiglaw22_anchor.l0, w1]
  refine Ev.pos (by omega) (Ev.bind_some (hg 0 (by omega) (by omega)) ?_)
  refine Ev.succ ?_
  simp only [whirligiglaw22_anchor.l0, w2]
  refine Ev.pos (by decide) (Ev.bind_some (hg (0 + 1) (by omega) (by omega)) ?_)
  refine Ev.succ ?_
  simp only [whirligiglaw22_anchor.l0, w3]
  refine Ev.pos (by decide) (Ev.bind_some (hg (0 + 1 + 1) (by omega) (by omega)) ?_)
  refine Ev.succ ?_
  simp only [whirligiglaw22_anchor.l0]
  refine Ev.neg (by decide) ?_
  have hp := put_ev (small_one (-1) 0 (0 + 1 + 1 + 1)) 0 1 ⟨0, 1, ⟨#[101]⟩, 0⟩ (by decide)
  rw [show putL [⟨-1, 0, 0 + 1 + 1 + 1, []⟩] 0 1 ⟨0, 1, ⟨#[101]⟩, 0⟩ = ([⟨-1, 0, 3, []⟩, ⟨0, 1, 2, [⟨1, 1, ⟨#[101]⟩, 0⟩]⟩], 1, 0) by kernel_rfl] at hp
  refine Ev.bind hp (Ev.pos rfl (Ev.pos rfl (Ev.pos rfl (Ev.pos (by decide) (Ev.pos rfl (Ev.pos (by decide) (Ev.pos rfl ?_)))))))
  have hr := right_ev [⟨-1, 0, 3, []⟩, ⟨0, 1, 2, [⟨1, 1, ⟨#[101]⟩, 0⟩]⟩] ⟨by simp, fun x hx => by
    simp only [List.mem_cons, List.not_mem_nil, or_false] at hx
    rcases hx with rfl | rfl
    · exact ⟨by simp, fun y hy => by cases hy⟩
    · exact ⟨by simp, fun y hy => by rw [List.mem_singleton.1 hy]; decide⟩⟩
  rw [show rightTree [⟨-1, 0, 3, []⟩, ⟨0, 1, 2, [⟨1, 1, ⟨#[101]⟩, 0⟩]⟩] = true by kernel_rfl] at hr
  exact Ev.bind hr (Ev.some rfl)
end Go.Proofs.YtbngfhlciebeeaaDoor.Sp
end
section
namespace Go.Proofs.YtbngfhlciebeeaaDoor.Opn
set_option linter.unusedVariables false
set_option linter.unusedSimpArgs false
open Go.RowKit Go.ChangeShapes Go.WideShapes Go.Proofs.YtbngfhlciebeeaaDoorW.PrintWords
def I64 (n : Int) : Prop := -9223372036854775808 ≤ n ∧ n ≤ 9223372036854775807
theorem i64_of {n : Int} (h : (Lit.int .i64 n).wf = true) : I64 n := bounds_i64 h
section
variable {H : Type} {enc : TypeId × Value → H} {w : World} {base : Nat} {sp : Nat → Bool} {held : Bool}
theorem opens3 : Opens enc Tryd.prog w base sp held 3 (Kd.int .i64) I64 := opens_imp (fun _ h => i64_of h) (opens_int Tryd.underlying3)
theorem opens2 : Opens enc Tryd.prog w base sp held 2 (Kd.int .i64) I64 := opens_imp (fun _ h => i64_of h) (opens_int Tryd.underlying2)
theorem opens9 : Opens enc Tryd.prog w base sp held 9 Kd.string (fun s => s.size ≤ maxLen) := opens_string Tryd.underlying9
theorem opens45 : Opens enc Tryd.prog w base sp held 45 L.k45 (fun x => I64 x.f0 ∧ I64 x.f1 ∧ x.f2.size ≤ maxLen ∧ I64 x.f3) :=
  opens_iso (fun x => ⟨x.1, x.2.1, x.2.2.1, x.2.2.2⟩) (fun _ => rfl)
    (opens_struct Tryd.underlying45 (tot := 4) (by kernel_rfl) (opensF_cons opens3 rfl (opensF_cons opens3 (by kernel_rfl) (opensF_cons opens9 (by kernel_rfl) (opensF_one opens2 (by kernel_rfl) (by kernel_rfl))))))
theorem opens41 : Opens enc Tryd.prog w base sp held 41 (Kd.slice 45 L.k45) (fun l => l.length ≤ maxLen ∧ ∀ x ∈ l, I64 x.f0 ∧ I64 x.f1 ∧ x.f2.size ≤ maxLen ∧ I64 x.f3) := opens_slice Tryd.underlying41 (by kernel_rfl) opens45
theorem opens43 : Opens enc Tryd.prog w base sp held 43 L.k43 (fun b => I64 b.f0 ∧ I64 b.f1 ∧ I64 b.f2 ∧ (b.f3.length ≤ maxLen ∧ ∀ x ∈ b.f3, I64 x.f0 ∧ I64 x.f1 ∧ x.f2.size ≤ maxLen ∧ I64 x.f3)) :=
  opens_iso (fun x => ⟨x.1, x.2.1, x.2.2.1, x.2.2.2⟩) (fun _ => rfl)
    (opens_struct Tryd.underlying43 (tot := 4) (by kernel_rfl) (opensF_cons opens3 rfl (opensF_cons opens3 (by kernel_rfl) (opensF_cons opens3 (by kernel_rfl) (opensF_one opens41 (by kernel_rfl) (by kernel_rfl))))))
theorem opens40 : Opens enc Tryd.prog w base sp held 40 (Kd.slice 43 L.k43) (fun l => l.length ≤ maxLen ∧ ∀ b ∈ l, I64 b.f0 ∧ I64 b.f1 ∧ I64 b.f2 ∧ (b.f3.length ≤ maxLen ∧ ∀ x ∈ b.f3, I64 x.f0 ∧ I64 x.f1 ∧ x.f2.size ≤ maxLen ∧ I64 x.f3)) := opens_slice Tryd.underlying40 (by kernel_rfl) opens43
end
end Go.Proofs.YtbngfhlciebeeaaDoor.Opn
end
