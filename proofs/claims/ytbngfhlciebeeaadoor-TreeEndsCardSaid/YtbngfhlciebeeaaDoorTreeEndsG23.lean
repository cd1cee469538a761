/- Printed and hand-written steps towards the row (TreeEnds), those that it reaches. -/
import Derived.Test.YtbngfhlciebeeaaDoorTreeEndsG20
import Derived.Test.YtbngfhlciebeeaaDoorTreeEndsLxf35
import Derived.Test.YtbngfhlciebeeaaDoorTreeEndsG5
import Derived.Test.YtbngfhlciebeeaaDoorTreeEndsG6
import Derived.ChangeArms
import Derived.WideShapes
import Derived.DataElems
import Derived.Lib.LaidTab
section
namespace Go.Proofs.YtbngfhlciebeeaaDoor.Sp
set_option linter.unusedVariables false
set_option linter.unusedSimpArgs false
open Go.RowKit Go.Proofs.YtbngfhlciebeeaaDoor.L Go.Proofs.YtbngfhlciebeeaaDoorW.PrintWords
def hasAt (a : Int) (xs : List S45) : Bool := decide (0 ≤ idxAt a xs)
theorem hasAt_iff {a : Int} {xs : List S45} : hasAt a xs = true ↔ ∃ x ∈ xs, x.f0 = a := by
  unfold hasAt
  rw [decide_eq_true_iff]
  unfold idxAt
  cases h : xs.findIdx? (fun x => x.f0 == a) with
  | none =>
    rw [List.findIdx?_eq_none_iff] at h
    simp only
    constructor
    · intro h2; omega
    · rintro ⟨x, hx, he⟩
      have := h x hx
      simp [he] at this
  | some j =>
    rw [List.findIdx?_eq_some_iff_getElem] at h
    obtain ⟨hl, he, _⟩ := h
    constructor
    · intro _; exact ⟨xs[j], List.getElem_mem hl, by simpa using he⟩
    · intro _; simp only; omega
def forkedB (l : List S43) (i : Nat) (b : S43) : Bool :=
  decide (0 ≤ b.f0) && (decide (b.f0 < (i : Int)) && (decide (0 ≤ b.f1) && (decide (b.f1 < (rd_T43 l b.f0).f2) && (decide (b.f1 < b.f2) && (hasAt b.f1 b.f3 && eqL (ahead b.f1 b.f3) (ahead b.f1 (rd_T43 l b.f0).f3))))))
def smallT (l : List S43) : Prop := l.length ≤ 1000000 ∧ ∀ b ∈ l, b.f3.length ≤ 1000000 ∧ ∀ x ∈ b.f3, x.f2.size ≤ 1000000
def branchOk (l : List S43) (i : Nat) (b : S43) : Bool := goodB b.f2 b.f3 && (if i = 0 then decide (b.f0 = -1) && decide (b.f1 = 0) else forkedB l i b)
def rightFrom (l : List S43) : Nat → List S43 → Bool
  | _, [] => true
  | i, b :: bs => branchOk l i b && rightFrom l (i + 1) bs
def rightTree (l : List S43) : Bool := decide (1 ≤ l.length) && (decide (l.length ≤ 8) && rightFrom l 0 l)
theorem input_eq (l : List S43) (i : Nat) (hi : i < l.length) (a : Int) : ∃ x0 x1 x2 x3, tree_Tree_Input.f l (i : Int) a = some (x0, x1, x2, x3, hasAt a l[i].f3) := by
  unfold tree_Tree_Input.f hasAt
  rw [if_pos ⟨by omega, by omega⟩, rd43 hi]
  by_cases h : 0 ≤ idxAt a l[i].f3
  · rw [if_pos h, decide_eq_true h]; exact ⟨_, _, _, _, rfl⟩
  · rw [if_neg h, decide_eq_false h]; exact ⟨_, _, _, _, rfl⟩
theorem forked_ev (l : List S43) (hs : smallT l) (i : Nat) (hi : i < l.length) : Ev (fun k => tree_Tree_forked.f k l (i : Int)) (forkedB l i l[i]) := by
  have hjt : ∀ a b c (d : List S45), Ev (fun k => tree_Tree_forked.j0 k l (i : Int) true a b c d) false := fun a b c d => by
    refine Ev.succ ?_
    simp only [tree_Tree_forked.j0]
    exact Ev.pos trivial (Ev.some rfl)
  have hsm := (hs.2 l[i] (List.getElem_mem hi)).1
  obtain ⟨x0, x1, x2, x3, hin⟩ := input_eq l i hi l[i].f1
  unfold tree_Tree_forked.f forkedB
  rw [rd43 hi]
  generalize l[i] = b at *
  refine Ev.pos (by omega) (Ev.pos (by omega) ?_)
  by_cases h1 : b.f0 < 0
  · rw [decide_eq_false (show ¬ 0 ≤ b.f0 by omega), Bool.false_and]
    exact Ev.pos h1 (hjt _ _ _ _)
  rw [decide_eq_true (show 0 ≤ b.f0 by omega), Bool.true_and]
  refine Ev.neg h1 ?_
  by_cases h2 : b.f0 ≥ (i : Int)
  · rw [decide_eq_false (show ¬ b.f0 < (i : Int) by omega), Bool.false_and]
    exact Ev.pos h2 (hjt _ _ _ _)
  rw [decide_eq_true (show b.f0 < (i : Int) by omega), Bool.true_and]
  refine Ev.neg h2 ?_
  by_cases h3 : b.f1 < 0
  · rw [decide_eq_false (show ¬ 0 ≤ b.f1 by omega), Bool.false_and]
    exact Ev.pos h3 (hjt _ _ _ _)
  rw [decide_eq_true (show 0 ≤ b.f1 by omega), Bool.true_and]
  refine Ev.neg h3 (Ev.pos (by omega) (Ev.pos (by omega) ?_))
  obtain ⟨m, hm⟩ := Int.eq_ofNat_of_zero_le (show 0 ≤ b.f0 by omega)
  have hml : m < l.length := by omega
  have hpm := (hs.2 l[m] (List.getElem_mem hml)).1
  have hrp : rd_T43 l b.f0 = l[m] := by rw [hm, rd43 hml]
  rw [hrp]
  by_cases h4 : b.f1 ≥ l[m].f2
  · rw [decide_eq_false (show ¬ b.f1 < l[m].f2 by omega), Bool.false_and]
    exact Ev.pos h4 (hjt _ _ _ _)
  rw [decide_eq_true (show b.f1 < l[m].f2 by omega), Bool.true_and]
  refine Ev.neg h4 ?_
  by_cases h5 : b.f2 ≤ b.f1
  · rw [decide_eq_false (show ¬ b.f1 < b.f2 by omega), Bool.false_and, decide_eq_true h5]
    exact hjt _ _ _ _
  rw [decide_eq_true (show b.f1 < b.f2 by omega), Bool.true_and, decide_eq_false h5]
  refine Ev.succ ?_
  simp only [tree_Tree_forked.j0]
  refine Ev.neg (by decide) (Ev.bind_some hin ?_)
  dsimp only
  cases hasAt b.f1 b.f3 with
  | false => exact Ev.neg (by decide) (Ev.some rfl)
  | true =>
    rw [Bool.true_and]
    refine Ev.pos rfl (Ev.bind (ahead_ev _ _ _ _ b.f3 hsm) (Ev.pos (by omega) (Ev.pos (by omega) ?_)))
    rw [hrp]
    refine Ev.bind (ahead_ev _ _ _ _ l[m].f3 hpm) (Ev.bind (equal_ev _ _ ?_) (Ev.some rfl))
    unfold ahead
    exact Nat.le_trans (List.length_filter_le _ _) hsm
theorem right_l (l : List S43) (hs : smallT l) (d : Nat) : ∀ j, j ≤ l.length → l.length - j = d →
    Ev (fun k => tree_Tree_Right.l0 k l l (l.length : Int) (j : Int)) (rightFrom l j (l.drop j)) := by
  induction d with
  | zero =>
    intro j hj hd
    refine Ev.succ ?_
    simp only [tree_Tree_Right.l0]
    refine Ev.neg (by omega) (Ev.some ?_)
    rw [List.drop_eq_nil_of_le (by omega)]; rfl
  | succ d ih =>
    intro j hj hd
    have hjl : j < l.length := by have := hs.1; omega
    have hsz := hs.1
    have hb := hs.2 l[j] (List.getElem_mem hjl)
    have hfork := forked_ev l hs j hjl
    have hnext := ih (j + 1) (by omega) (by omega)
    rw [List.drop_eq_getElem_cons hjl]
    simp only [rightFrom, branchOk, goodB]
    refine Ev.succ ?_
    simp only [tree_Tree_Right.l0]
    rw [rd43 hjl, wrap_at (by omega) (by omega)]
    generalize l[j] = b at *
    refine Ev.pos (by omega) (Ev.pos (by omega) (Ev.pos (by omega) ?_))
    by_cases h1 : b.f2 < 0
    · rw [decide_eq_false (show ¬ 0 ≤ b.f2 by omega), Bool.false_and, Bool.false_and, Bool.false_and]
      exact Ev.pos h1 (Ev.some rfl)
    rw [decide_eq_true (show 0 ≤ b.f2 by omega), Bool.true_and]
    refine Ev.neg h1 ?_
    by_cases h2 : b.f2 > 512
    · rw [decide_eq_false (show ¬ b.f2 ≤ 512 by omega), Bool.false_and, Bool.false_and, Bool.false_and]
      exact Ev.pos h2 (Ev.some rfl)
    rw [decide_eq_true (show b.f2 ≤ 512 by omega), Bool.true_and]
    refine Ev.neg h2 (Ev.bind (rising_ev b.f3 hb.1 hb.2 b.f0 b.f1 b.f2) ?_)
    cases rising b.f2 (-1) b.f3 with
    | false => exact Ev.neg (by decide) (Ev.some rfl)
    | true =>
      refine Ev.pos rfl ?_
      rw [Bool.true_and]
      by_cases h0 : j = 0
      · rw [if_pos h0]
        refine Ev.pos (by omega) ?_
        by_cases h3 : b.f0 = -1
        · rw [decide_eq_true h3, Bool.true_and]
          refine Ev.pos h3 ?_
          by_cases h4 : b.f1 = 0
          · rw [decide_eq_true h4, Bool.true_and]
            exact Ev.pos h4 (Ev.neg (by omega) hnext)
          · rw [decide_eq_false h4, Bool.false_and]
            exact Ev.neg h4 (Ev.some rfl)
        · rw [decide_eq_false h3, Bool.false_and, Bool.false_and]
          exact Ev.neg h3 (Ev.some rfl)
      · rw [if_neg h0]
        refine Ev.neg (by omega) (Ev.pos (by omega) (Ev.bind hfork ?_))
        cases forkedB l j b with
        | false => exact Ev.neg (by decide) (Ev.some rfl)
        | true => exact Ev.pos rfl (by rw [Bool.true_and]; exact hnext)
theorem right_ev (l : List S43) (hs : smallT l) : Ev (fun k => tree_Tree_Right.f k l) (rightTree l) := by
  have hjt : Ev (fun k => tree_Tree_Right.j0 k l true) false := by
    refine Ev.succ ?_
    simp only [tree_Tree_Right.j0]
    exact Ev.pos trivial (Ev.some rfl)
  unfold tree_Tree_Right.f rightTree
  by_cases h0 : (l.length : Int) = 0
  · rw [decide_eq_false (show ¬ 1 ≤ l.length by omega), Bool.false_and]
    exact Ev.pos h0 hjt
  rw [decide_eq_true (show 1 ≤ l.length by omega), Bool.true_and]
  refine Ev.neg h0 ?_
  by_cases h8 : (l.length : Int) > 8
  · rw [decide_eq_false (show ¬ l.length ≤ 8 by omega), Bool.false_and, decide_eq_true h8]
    exact hjt
  rw [decide_eq_true (show l.length ≤ 8 by omega), Bool.true_and, decide_eq_false h8]
  refine Ev.succ ?_
  simp only [tree_Tree_Right.j0]
  exact Ev.neg (by decide) (right_l l hs _ 0 (by omega) rfl)
end Go.Proofs.YtbngfhlciebeeaaDoor.Sp
end
section
namespace Go.Proofs.YtbngfhlciebeeaaDoor.L
open Go.RowKit Go.Proofs.YtbngfhlciebeeaaDoorW.PrintWords Go.Proofs.YtbngfhlciebeeaaDoorW.PrintLast Go.Proofs.YtbngfhlciebeeaaDoorW.PrintMore
attribute [local go_sem] max2_int min2_int max_two min_two max_three min_three max_four min_four   -- for this text's walks alone
set_option linter.unusedVariables false
set_option linter.unusedSimpArgs false
def tree_New.f  : Option ((List (S43))) := some (([(⟨(-1), 0, 0, ([] : List (S45))⟩ : S43)] : List (S43)))
set_option maxHeartbeats 8000000 in
set_option maxRecDepth 100000 in
theorem tree_New.calls  (r : List (S43)) (w : World) (h : tree_New.f  = some r) :
  Calls Tryd.prog 39 #[] w fun e w' => ∃ v0_ : Value, e = .returned (v0_) ∧ Kd.S k43 43 w' w.heap.size (fun _ => True) v0_ r ∧ Below w.heap.size w w' := by
 have hu43 := Tryd.underlying43
 have HB := Aside0.mk (Below.refl w.heap.size w)
 have H : (some (([(⟨(-1), 0, 0, ([] : List (S45))⟩ : S43)] : List (S43)))) = some r := h
 clear h
 obtain ⟨y364, hy364⟩ : ∃ y_ : List (S43), y_ = (([(⟨(-1), 0, 0, ([] : List (S45))⟩ : S43)] : List (S43))) := ⟨_, rfl⟩
 replace H : (some y364) = some r := by first | (rw [hy364]; with_reducible exact H) | (have H2_ := (Option.bind_some _ _).symm.trans H; rw [hy364]; with_reducible exact H2_) | (have H2_ := (Option.bind_some _ _).symm.trans H; with_reducible exact H2_) | with_reducible exact H | (rw [hy364]; exact H) | exact H
 have Ny364 := Aside0.mk hy364
 clear hy364
 obtain rfl := Option.some.inj H
 go_enter Tryd.func39, Tryd.ntmps39
 go_wp2_with (first | ((with_reducible refine gate_dst (N := 2) rfl ?_); refine Kd.S_lit k43 _ 43 ?hg (N := 2) ?hd (xs := ([(⟨(-1), 0, 0, ([] : List (S45))⟩ : S43)] : List (S43))) (inner := [.int .i64 (-1), .int .i64 0, .int .i64 0, .slice none 0 0]) (ok := fun _ => True) (okp := fun _ => True) ?hr ?hp (fun _ hk => hk) trivial (Below.refl _ _) (Nat.le_refl _) (by simp) ?_; (case hd => rfl); (case hg => rfl); (case hr => first | (go_simp; done) | (go_simp; rfl)); (case hp => exact (Reps.c4 (show Kd.M k43 _ _ _ (⟨(-1), 0, 0, ([] : List (S45))⟩ : S43) [.int .i64 (-1), .int .i64 0, .int .i64 0, .slice none 0 0] from (k43_mkM _ _ _ (⟨(-1), 0, 0, ([] : List (S45))⟩ : S43) (Kd.R_nil _ _ _ _ _))) (Reps.none _ _))); intro v365 w1 ho2 hb hg_ hnew_; clear hg_ hnew_; (first | rw [← Ny364.out] at ho2 | (simp only [Int.reduceToNat] at ho2; rw [← Ny364.out] at ho2)); have HO366 := Aside0.mk (Kd.S_lower ho2 (below_size qB)); replace HB := bst hb; clear hb ho2))
 go_ret
 exact ⟨_, qR, by (with_reducible repeat (first | apply Kd.S_alloc | apply Kd.S_drewN | apply Kd.S_drew)); exact HO366.out, qB⟩
end Go.Proofs.YtbngfhlciebeeaaDoor.L
end
section
namespace Go.Proofs.YtbngfhlciebeeaaDoor.Opn
set_option linter.unusedVariables false
set_option linter.unusedSimpArgs false
open Go.RowKit Go.ChangeShapes Go.WideShapes Go.Proofs.YtbngfhlciebeeaaDoorW.PrintWords
section
variable {H : Type} {enc : TypeId × Value → H} {P : Program} {w : World} {base : Nat} {sp : Nat → Bool} {held : Bool} {α β : Type}
def Opens (enc : TypeId × Value → H) (P : Program) (w : World) (base : Nat) (sp : Nat → Bool) (held : Bool) (T : TypeId) (kd : Kd α) (ok : α → Prop) : Prop :=
  ∀ (n : Nat) (cs : List Value) (y : DataW H × List MemPlace), DataW.trod enc P w base sp held n T cs = some y → ∃ x, kd.K w x cs ∧ ok x
def OpensF (enc : TypeId × Value → H) (P : Program) (w : World) (base : Nat) (sp : Nat → Bool) (held : Bool) (fs : List Field) (off tot : Nat) (kd : Kd α) (ok : α → Prop) : Prop :=
  ∀ (n : Nat) (cs : List Value), cs.length = tot → (∀ f ∈ fs, ∃ y, DataW.trod enc P w base sp held n f.type ((cs.drop f.offset).take (P.cellsOf f.type)) = some y) → ∃ x, kd.K w x (cs.drop off) ∧ ok x
theorem opens_int {T : TypeId} {k : IntKind} (hu : P.underlying T = some (.int k)) : Opens enc P w base sp held T (Kd.int k) (fun n => (Lit.int k n).wf = true) := fun (n : Nat) (cs : List Value) y h => by
  obtain ⟨x, rfl, _, hw⟩ := DataW.trod_int hu h
  exact ⟨x, rfl, hw⟩
theorem opens_string {T : TypeId} (hu : P.underlying T = some .string) : Opens enc P w base sp held T Kd.string (fun s => s.size ≤ maxLen) := fun (n : Nat) (cs : List Value) y h => by
  obtain ⟨x, rfl, _, hw⟩ := DataW.trod_string hu h
  exact ⟨x, rfl, hw⟩
theorem opensF_one {f : Field} {off tot : Nat} {kd : Kd α} {ok : α → Prop} (h : Opens enc P w base sp held f.type kd ok) (ho : f.offset = off) (hs : off + P.cellsOf f.type = tot) : OpensF enc P w base sp held [f] off tot kd ok := fun n cs hl hf => by
  obtain ⟨y, hy⟩ := hf f (by simp)
  rw [ho, List.take_of_length_le (by rw [List.length_drop]; omega)] at hy
  exact h n _ y hy
theorem opensF_cons {f : Field} {fs : List Field} {off tot : Nat} {a : Kd α} {b : Kd β} {ok : α → Prop} {ok2 : β → Prop} (h : Opens enc P w base sp held f.type a ok) (ho : f.offset = off) (hr : OpensF enc P w base sp held fs (off + P.cellsOf f.type) tot b ok2) :
    OpensF enc P w base sp held (f :: fs) off tot (Kd.pair a b) (fun x => ok x.1 ∧ ok2 x.2) := fun n cs hl hf => by
  obtain ⟨y, hy⟩ := hf f (by simp)
  rw [ho] at hy
  obtain ⟨x, hx, hox⟩ := h n _ y hy
  obtain ⟨z, hz, hoz⟩ := hr n cs hl (fun g hg => hf g (List.mem_cons_of_mem _ hg))
  refine ⟨(x, z), ⟨_, _, ?_, hx, hz⟩, hox, hoz⟩
  rw [← List.drop_drop, List.take_append_drop]
theorem opens_struct {T : TypeId} {fs : Array Field} {tot : Nat} {kd : Kd α} {ok : α → Prop} (hu : P.underlying T = some (.struct fs)) (hc : P.cellsOf T = tot) (h : OpensF enc P w base sp held fs.toList 0 tot kd ok) : Opens enc P w base sp held T kd ok := fun n cs y hy => by
  obtain ⟨xs, m, _, _, hl, hxs, hf⟩ := DataW.trod_struct hu hy
  obtain ⟨x, hx, ho⟩ := h m cs (hl.trans hc) (fun f hm => by
    obtain ⟨i, hi⟩ := List.getElem?_of_mem hm
    have h1 := hf i f (by simpa using hi)
    have h2 : i < xs.length := by
      rw [hxs]
      have := (List.getElem?_eq_some_iff.1 hi).1
      simpa using this
    exact ⟨xs[i], h1.trans (List.getElem?_eq_getElem h2)⟩)
  exact ⟨x, by simpa using hx, ho⟩
theorem opens_iso {T : TypeId} {kd : Kd α} {ok : α → Prop} {f : β → α} (g : α → β) (hg : ∀ y, f (g y) = y) (h : Opens enc P w base sp held T kd ok) : Opens enc P w base sp held T (Kd.iso kd f) (fun x => ok (f x)) := fun n cs y hy => by
  obtain ⟨x, hx, ho⟩ := h n cs y hy
  exact ⟨g x, by show kd.K w (f (g x)) cs; rw [hg]; exact hx, by show ok (f (g x)); rw [hg]; exact ho⟩
theorem opens_imp {T : TypeId} {kd : Kd α} {ok ok2 : α → Prop} (hi : ∀ x, ok x → ok2 x) (h : Opens enc P w base sp held T kd ok) : Opens enc P w base sp held T kd ok2 := fun n cs y hy => by
  obtain ⟨x, hx, ho⟩ := h n cs y hy
  exact ⟨x, hx, hi x ho⟩
theorem choose_list {p : Nat → α → Prop} : ∀ (n : Nat), (∀ i, i < n → ∃ x, p i x) → ∃ l : List α, l.length = n ∧ ∀ i x, l[i]? = some x → p i x
  | 0, _ => ⟨[], rfl, by simp⟩
  | n + 1, h => by
    obtain ⟨l, hl, hp⟩ := choose_list n (fun i hi => h i (by omega))
    obtain ⟨x, hx⟩ := h n (by omega)
    refine ⟨l ++ [x], by simp [hl], fun i y hy => ?_⟩
    by_cases hi : i < n
    · rw [List.getElem?_append_left (by omega)] at hy
      exact hp i y hy
    · rw [List.getElem?_append_right (by omega)] at hy
      have h1 : i = n := by
        have := (List.getElem?_eq_some_iff.1 hy).1
        simp at this
        omega
      subst h1
      rw [hl, Nat.sub_self] at hy
      simp at hy
      subst hy
      exact hx
theorem cells?_get {a : Addr} {n : Nat} {cs : List Value} (h : w.cells? base a n = some cs) : cs.length = n ∧ ∀ i u, cs[i]? = some u → w.cell? (a.add i) = some u := by
  unfold World.cells? at h
  split at h
  · have hl := Lib.mapM_length h
    simp at hl
    refine ⟨hl, fun i u hu => ?_⟩
    have hi : i < cs.length := (List.getElem?_eq_some_iff.1 hu).1
    obtain ⟨b, hb, hf⟩ := Lib.mapM_at h i i (by rw [List.getElem?_range (by omega)])
    rw [hu] at hb
    obtain rfl := Option.some.inj hb
    exact hf
  · cases h
theorem opens_slice {T E : TypeId} {q : Nat} {kd : Kd α} {ok : α → Prop} (hu : P.underlying T = some (.slice E)) (hc : P.cellsOf E = kd.sz) (h : Opens enc P w base sp held E kd ok) :
    Opens enc P w base sp held T (Kd.slice q kd) (fun l => l.length ≤ maxLen ∧ ∀ x ∈ l, ok x) := fun n cs y hy => by
  rcases DataW.trod_slice hu hy with ⟨rfl, _⟩ | ⟨a, len, cap, elems, rest, m, _, rfl, _, _, hl, hm, hel, he, _, _⟩
  · exact ⟨[], ⟨none, 0, rfl, Nat.le_refl _, rfl, by simp, fun h => absurd h (by simp)⟩, by simp, by simp⟩
  · obtain ⟨l, hll, hp⟩ := choose_list (p := fun i x => ∃ c, c.length = kd.sz ∧ kd.K w x c ∧ ok x ∧ ∀ j u, c[j]? = some u → w.cell? (a.add (i * kd.sz + j)) = some u) len (fun i hi => by
      have h1 := he i hi
      rw [hc, List.getElem?_eq_getElem (by omega)] at h1
      obtain ⟨c, hc1, hc2⟩ := Option.bind_eq_some_iff.1 h1
      obtain ⟨x, hx, hox⟩ := h m c _ hc2
      obtain ⟨hlen, hget⟩ := cells?_get hc1
      exact ⟨x, c, hlen, hx, hox, fun j u hju => by
        have := hget j u hju
        rwa [Addr.add_add] at this⟩)
    refine ⟨l, ⟨some a, cap, by rw [hll], by omega, rfl, ?_, fun _ => ⟨a, rfl, fun j p hj => ?_⟩⟩, by omega, fun x hx => ?_⟩
    · simp only [maxLen] at hm; omega
    · obtain ⟨c, h1, h2, _, h4⟩ := hp j p hj
      exact ⟨c, h1, h2, h4⟩
    · obtain ⟨i, hi⟩ := List.getElem?_of_mem hx
      obtain ⟨c, _, _, h3, _⟩ := hp i x hi
      exact h3
theorem arg_slice {T : TypeId} {q : Nat} {kd : Kd α} {ok : List α → Prop} {v : Value} {d : DataW H} {ps : List MemPlace} {a : Option Addr} {len cap : Nat} (hv : v = .slice a len cap) (h : Opens enc P w base sp held T (Kd.slice q kd) ok) (ht : DataW.Trod enc P w base sp held T v d ps) :
    ∃ (A : Option Addr) (l : List α) (c : Nat), v = .slice A l.length c ∧ l.length ≤ c ∧ Kd.C kd w A l.length l ∧ ok l := by
  subst hv
  obtain ⟨n, hn⟩ := ht
  obtain ⟨l, ⟨A, c, hcs, hl, hr⟩, hok⟩ := h n _ _ hn
  simp [Value.cells] at hcs
  obtain ⟨rfl, h1, rfl⟩ := hcs
  exact ⟨a, l, cap, by rw [h1], hl, hr, hok⟩
theorem arg_struct {T : TypeId} {kd : Kd α} {ok : α → Prop} {cs : Array Value} {d : DataW H} {ps : List MemPlace} (h : Opens enc P w base sp held T kd ok) (ht : DataW.Trod enc P w base sp held T (.agg cs) d ps) :
    ∃ x, kd.K w x cs.toList ∧ ok x := by
  obtain ⟨n, hn⟩ := ht
  exact h n _ _ hn
end
end Go.Proofs.YtbngfhlciebeeaaDoor.Opn
end
