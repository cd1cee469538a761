/- Printed and hand-written steps towards the row (TreeEnds), those that it reaches. -/
import Derived.Test.YtbngfhlciebeeaaDoorTreeEndsG5
import Derived.Test.YtbngfhlciebeeaaDoorTreeEndsG6
import Derived.Test.YtbngfhlciebeeaaDoorTreeEndsG28
import Derived.Test.YtbngfhlciebeeaaDoorTreeEndsLxf44
import Derived.Test.YtbngfhlciebeeaaDoorTreeEndsG23
import Derived.KernelRfl
import Derived.OpenShut
section
namespace Go.Proofs.YtbngfhlciebeeaaDoor.L
open Go.RowKit Go.Proofs.YtbngfhlciebeeaaDoorW.PrintWords Go.Proofs.YtbngfhlciebeeaaDoorW.PrintLast Go.Proofs.YtbngfhlciebeeaaDoorW.PrintMore
attribute [local go_sem] max2_int min2_int max_two min_two max_three min_three max_four min_four   -- for this text's walks alone
set_option linter.unusedVariables false
set_option linter.unusedSimpArgs false
def whirligiglaw22_small.l0 : Nat → List (S56) → List (S56) → Int → Int → Option (Bool)
 | 0, _, _, _, _ => none
 | k + 1, x0, x5, x6, x7 => if x7 < x6 then (if 0 ≤ x7 then (if x7 < (x5.length : Int) then (if (((rd_T56 x5 x7).f3.f2).size : Int) > 200 then (some false) else (whirligiglaw22_small.l0 k x0 x5 x6 (wrap64 (x7 + 1)))) else (none)) else (none)) else (some (decide ((x0.length : Int) ≤ 700)))
def whirligiglaw22_small.f (k : Nat) (l0 : List (S56)) : Option (Bool) := whirligiglaw22_small.l0 k l0 l0 (l0.length : Int) 0
set_option maxHeartbeats 8000000 in
set_option maxRecDepth 100000 in
theorem whirligiglaw22_small.calls (k : Nat) (A0 : Option Addr) (c0 : Nat) (l0 : List (S56)) (r : Bool) (w : World) (hr0 : Kd.C k56 w A0 l0.length l0) (hc0 : l0.length ≤ c0) (h : whirligiglaw22_small.f k l0 = some r) :
  Calls Tryd.prog 38 #[.slice A0 l0.length c0] w fun e w' => e = .returned (.bool r) ∧ Below w.heap.size w w' := by
 have hu56 := Tryd.underlying56
 have HR0 := Aside0.mk hr0
 have HC0 := Aside0.mk hc0
 clear hr0 hc0
 have HB := Aside0.mk (Below.refl w.heap.size w)
 have H : (whirligiglaw22_small.l0 k l0 l0 (l0.length : Int) 0) = some r := h
 clear h
 have H' := Aside0.mk H
 clear H
 go_enter Tryd.func38, Tryd.ntmps38
 go_wp2
 go_loopg [7] k (fun kq v7 w' => ∃ (x7_1 : Int), v7 = .int .i64 x7_1 ∧ Aside0 (whirligiglaw22_small.l0 kq l0 l0 (l0.length : Int) x7_1 = some r) ∧ Aside0 (kq ≤ k) ∧ Aside0 (Below w.heap.size w w'))
 case atStart => exact ⟨(0), (by first | rfl | (simp; done) | (simp [*]; done)), H', ⟨Nat.le_refl _⟩, ⟨qB⟩⟩
 case round =>
  clear H'
  obtain ⟨x7_1, rfl, HA, HK1, HB⟩ := hrel
  cases gk with
  | zero => exact absurd HA.out (by simp [whirligiglaw22_small.l0])
  | succ k1 =>
   have H := HA.out
   clear HA
   simp only [whirligiglaw22_small.l0] at H
   replace H := iD H
   rcases H with ⟨c2b0, H⟩ | ⟨c2b0, H⟩
   ·by_cases c3 : 0 ≤ x7_1
    ·rw [if_pos c3] at H
     have c3b0 := decide_eq_true c3
     clear c3
     replace H := iD H
     rcases H with ⟨c4b0, H⟩ | ⟨c4b0, H⟩
     ·by_cases c5 : (((rd_T56 l0 x7_1).f3.f2).size : Int) > 200
      ·rw [if_pos c5] at H
       have c5b0 := decide_eq_true c5
       have c5b1 : decide (200 < ((rd_T56 l0 x7_1).f3.f2).size) = true := decide_eq_true (by omega)
       clear c5
       obtain rfl := Option.some.inj H
       have p496 : 0 ≤ (x7_1 : Int) := qD
       have q496 : x7_1 < (l0.length : Int) := qD
       obtain ⟨ad496, e496, hx496_0, hx496_1, hx496_2, hx496_3, hx496_4, hx496_5, hx496_6⟩ := at_T56 (Kd.C_below HR0.out HB.out) x7_1 p496 q496
       cases e496
       replace p496 := eq_true p496
       replace q496 := eq_true q496
       go_wp2_with (first | ((with_reducible refine gd 4 rfl ?_); refine bx 4 #[.int .i64 0, .int .i64 0, .int .i64 0, .int .i64 0, .int .i64 0, .string (⟨#[]⟩ : ByteArray), .int .i64 0] 56 ?_; intro gb497 hg w6 hbox hb; have BK497 := Aside0.mk (hbox); have GW497 := geS hg; have GE497 := geS hg; replace HB := bst hb; clear hb hbox hg; obtain ⟨hcz7_0, hcz7_1, hcz7_2, hcz7_3, hcz7_4, hcz7_5, hcz7_6, hfz7_0, hfz7_1, hfz7_2, hfz7_3, hfz7_4, hfz7_5, hfz7_6⟩ := cells7 BK497.out))
       go_ret
       exact ⟨qR, qB⟩
      ·rw [if_neg c5] at H
       have c5b0 := decide_eq_false c5
       have c5b1 : decide (200 < ((rd_T56 l0 x7_1).f3.f2).size) = false := decide_eq_false (by omega)
       clear c5
       have H' := Aside0.mk H
       clear H
       have p496 : 0 ≤ (x7_1 : Int) := qD
       have q496 : x7_1 < (l0.length : Int) := qD
       obtain ⟨ad496, e496, hx496_0, hx496_1, hx496_2, hx496_3, hx496_4, hx496_5, hx496_6⟩ := at_T56 (Kd.C_below HR0.out HB.out) x7_1 p496 q496
       cases e496
       replace p496 := eq_true p496
       replace q496 := eq_true q496
       go_wp2_with (first | ((with_reducible refine gd 4 rfl ?_); refine bx 4 #[.int .i64 0, .int .i64 0, .int .i64 0, .int .i64 0, .int .i64 0, .string (⟨#[]⟩ : ByteArray), .int .i64 0] 56 ?_; intro gb497 hg w8 hbox hb; have BK497 := Aside0.mk (hbox); have GW497 := geS hg; have GE497 := geS hg; replace HB := bst hb; clear hb hbox hg; obtain ⟨hcz9_0, hcz9_1, hcz9_2, hcz9_3, hcz9_4, hcz9_5, hcz9_6, hfz9_0, hfz9_1, hfz9_2, hfz9_3, hfz9_4, hfz9_5, hfz9_6⟩ := cells7 BK497.out))
       go_roundg k1
       case measure => have := HK1.out; omega
       case rel => exact ⟨(wrap64 (x7_1 + 1)), (by first | rfl | (simp; done) | (simp [*]; done)), H', ⟨by have := HK1.out; omega⟩, ⟨qB⟩⟩
     ·exact absurd H (by simp)
    ·rw [if_neg c3] at H
     exact absurd H (by simp)
   ·obtain rfl := Option.some.inj H
    go_wp2
    go_ret
    exact ⟨qR, qB⟩
end Go.Proofs.YtbngfhlciebeeaaDoor.L
end
section
namespace Go.Proofs.YtbngfhlciebeeaaDoor.Sp
set_option linter.unusedVariables false
set_option linter.unusedSimpArgs false
open Go.RowKit Go.Proofs.YtbngfhlciebeeaaDoor.L Go.Proofs.YtbngfhlciebeeaaDoorW.PrintWords
theorem rd56 {l : List S56} {j : Nat} (h : j < l.length) : rd_T56 l (j : Int) = l[j] := by
  unfold rd_T56
  rw [Int.toNat_natCast, List.getD_eq_getElem?_getD, List.getElem?_eq_getElem h]; rfl
def smallO (l : List S56) : Bool := l.all fun o => decide (o.f3.f2.size ≤ 200)
theorem smallOp_l (l : List S56) (hl : l.length ≤ 9223372036854775807) (d : Nat) : ∀ j, j ≤ l.length → l.length - j = d →
    Ev (fun k => whirligiglaw22_small.l0 k l l (l.length : Int) (j : Int)) (smallO (l.drop j) && decide (l.length ≤ 700)) := by
  induction d with
  | zero =>
    intro j hj hd
    refine Ev.succ ?_
    simp only [whirligiglaw22_small.l0]
    refine Ev.neg (by omega) (Ev.some ?_)
    rw [List.drop_eq_nil_of_le (by omega)]
    simp [smallO]
    omega
  | succ d ih =>
    intro j hj hd
    have hjl : j < l.length := by omega
    refine Ev.succ ?_
    simp only [whirligiglaw22_small.l0]
    rw [rd56 hjl, wrap_at (by omega) (by omega), List.drop_eq_getElem_cons hjl]
    refine Ev.pos (by omega) (Ev.pos (by omega) (Ev.pos (by omega) ?_))
    by_cases h : (l[j].f3.f2.size : Int) > 200
    · refine Ev.pos h (Ev.some ?_)
      simp only [smallO, List.all_cons]
      rw [decide_eq_false (by omega)]
      simp
    · refine Ev.neg h ?_
      have := ih (j + 1) (by omega) (by omega)
      simp only [smallO, List.all_cons]
      rw [decide_eq_true (show l[j].f3.f2.size ≤ 200 by omega), Bool.true_and]
      exact this
theorem smallOp_ev (l : List S56) (hl : l.length ≤ 9223372036854775807) : Ev (fun k => whirligiglaw22_small.f k l) (smallO l && decide (l.length ≤ 700)) := by
  unfold whirligiglaw22_small.f
  exact smallOp_l l hl _ 0 (by omega) rfl
theorem smallO_mem {l : List S56} (h : smallO l = true) {o : S56} (ho : o ∈ l) : o.f3.f2.size ≤ 200 := by
  have := (List.all_eq_true.1 h) o ho
  simpa using this
def opL (l : List S43) (o : S56) : List S43 := if o.f0 = 1 then (growL l o.f1).1 else if o.f0 = 2 then (putL l o.f1 o.f2 o.f3).1 else l
theorem okT_op {l : List S43} (h : okT l) {o : S56} (ho : o.f3.f2.size ≤ 200) : okT (opL l o) := by
  unfold opL
  by_cases h1 : o.f0 = 1
  · rw [if_pos h1]; exact okT_grow h _
  · rw [if_neg h1]
    by_cases h2 : o.f0 = 2
    · rw [if_pos h2]; exact okT_put h _ _ ho
    · rw [if_neg h2]; exact h
theorem grow_ok {l : List S43} (h : okT l) (b : Int) : tree_Tree_Grow.f l b = some (growL l b) := grow_eq (okT_small h) (fun x hx => (okT_len h hx).1) b
theorem put_ok {l : List S43} (h : okT l) (b at_ : Int) (x : S45) (hx : x.f2.size ≤ 200) : Ev (fun k => tree_Tree_Put.f k l b at_ x.f0 x.f1 x.f2 x.f3) (putL l b at_ x) := put_ev (okT_small h) b at_ x (by omega)
def inOut (o : Option S45) : Int × Int × ByteArray × Int × Bool := match o with | some x => (x.f0, x.f1, x.f2, x.f3, true) | none => (0, 0, ⟨#[]⟩, 0, false)
def findAt (i : Int) (xs : List S45) : Option S45 := xs.find? (fun x => x.f0 == i)
theorem idx_find (i : Int) (xs : List S45) : (0 ≤ idxAt i xs → findAt i xs = some (rd_T45 xs (idxAt i xs))) ∧ (¬ 0 ≤ idxAt i xs → findAt i xs = none) := by
  unfold idxAt findAt
  cases h : xs.findIdx? (fun x => x.f0 == i) with
  | none =>
    refine ⟨fun h2 => by simp at h2, fun _ => ?_⟩
    rw [List.findIdx?_eq_none_iff] at h
    rw [List.find?_eq_none]
    intro x hx
    have := h x hx
    simpa using this
  | some j =>
    refine ⟨fun _ => ?_, fun h2 => absurd (by simp only; omega) h2⟩
    rw [List.findIdx?_eq_some_iff_getElem] at h
    obtain ⟨hl, he, hno⟩ := h
    simp only
    rw [rd45 hl, List.find?_eq_some_iff_getElem]
    exact ⟨he, j, hl, rfl, fun k hk => by simpa using hno k hk⟩
theorem input_in {t : List S43} {n : Nat} (hn : n < t.length) (i : Int) : tree_Tree_Input.f t (n : Int) i = some (inOut (findAt i t[n].f3)) := by
  obtain ⟨h1, h2⟩ := idx_find i t[n].f3
  unfold tree_Tree_Input.f
  rw [if_pos ⟨by omega, by omega⟩, rd43 hn]
  by_cases h : 0 ≤ idxAt i t[n].f3
  · rw [if_pos h, h1 h]; rfl
  · rw [if_neg h, h2 h]; rfl
def movesB (b : S43) : List S47 := gen 0 b.f2.toNat b.f3
def mvOf (o : Option S45) : S47 := match o with | some x => i47 x | none => z47
theorem moves_at {b : S43} (hg : goodB b.f2 b.f3 = true) {j : Nat} (hj : (j : Int) < b.f2) : ∃ h : j < (movesB b).length, (movesB b)[j] = mvOf (findAt (j : Int) b.f3) := by
  obtain ⟨h0, h1, h2⟩ := goodB_iff.1 hg
  have hl : j < (movesB b).length := by unfold movesB; rw [gen_length]; omega
  refine ⟨hl, ?_⟩
  have := gen_at b.f2.toNat 0 b.f3 (-1) h2 (by omega) j (by omega)
  rw [Nat.zero_add] at this
  have h3 : (movesB b)[j]? = some (mvOf (findAt (j : Int) b.f3)) := this.trans (by unfold mvOf findAt; rfl)
  rw [List.getElem?_eq_getElem hl] at h3
  exact Option.some.inj h3
theorem findAt_mem {i : Int} {xs : List S45} {x : S45} (h : findAt i xs = some x) : x ∈ xs ∧ x.f0 = i := by
  unfold findAt at h
  exact ⟨List.mem_of_find?_eq_some h, by have := List.find?_some h; simpa using this⟩
theorem findAt_right {b : S43} (hg : goodB b.f2 b.f3 = true) {i : Int} {x : S45} (h : findAt i b.f3 = some x) : rightI x = true ∧ 0 ≤ i ∧ i < b.f2 := by
  obtain ⟨h0, h1, h2⟩ := goodB_iff.1 hg
  obtain ⟨hm, he⟩ := findAt_mem h
  obtain ⟨a, c, d⟩ := rising_mem h2 x hm
  exact ⟨a, by omega, by omega⟩
theorem cp_self : ∀ (u : List S47), cp u u = u.length
  | [] => rfl
  | x :: u => by
    simp only [cp]
    rw [if_pos (eqJ_iff.2 rfl), cp_self u]; rfl
theorem alike {a b : S43} (ha : goodB a.f2 a.f3 = true) (hb : goodB b.f2 b.f3 = true) (i : Int) :
    (if ((inOut (findAt i a.f3)).2.2.2.2 != (inOut (findAt i b.f3)).2.2.2.2) = true then true else
      (!((inOut (findAt i a.f3)).1 == (inOut (findAt i b.f3)).1) || (!((inOut (findAt i a.f3)).2.1 == (inOut (findAt i b.f3)).2.1) || (!((inOut (findAt i a.f3)).2.2.1.toList == (inOut (findAt i b.f3)).2.2.1.toList) || (!((inOut (findAt i a.f3)).2.2.2.1 == (inOut (findAt i b.f3)).2.2.2.1)))))) = !(eqJ (mvOf (findAt i a.f3)) (mvOf (findAt i b.f3))) := by
  cases h1 : findAt i a.f3 with
  | none =>
    cases h2 : findAt i b.f3 with
    | none => simp [inOut, mvOf, eqJ]
    | some y =>
      have hk := kind_ne (findAt_right hb h2).1
      have : eqJ z47 (i47 y) = false := by
        cases he : eqJ z47 (i47 y) with
        | false => rfl
        | true => exact absurd (eqJ_iff.1 he).symm hk
      simp [inOut, mvOf, this]
  | some x =>
    cases h2 : findAt i b.f3 with
    | none =>
      have hk := kind_ne (findAt_right ha h1).1
      have : eqJ (i47 x) z47 = false := by
        cases he : eqJ (i47 x) z47 with
        | false => rfl
        | true => exact absurd (eqJ_iff.1 he) hk
      simp [inOut, mvOf, this]
    | some y =>
      simp only [inOut, mvOf, eqJ, i47, Bool.not_and, bne_self_eq_false]
      simp
theorem commonT_l {t : List S43} {m n : Nat} (hm : m < t.length) (hn : n < t.length) (ha : goodB t[m].f2 t[m].f3 = true) (hb : goodB t[n].f2 t[n].f3 = true) (d : Nat) : ∀ j : Nat, (j : Int) ≤ mn t[m].f2 t[n].f2 → (mn t[m].f2 t[n].f2 - j).toNat = d →
    Ev (fun k => tree_Tree_Common.l0 k t (m : Int) (n : Int) (mn t[m].f2 t[n].f2) (mn t[m].f2 t[n].f2) (j : Int)) ((j + cp ((movesB t[m]).drop j) ((movesB t[n]).drop j) : Nat) : Int) := by
  have hmn : mn t[m].f2 t[n].f2 ≤ t[m].f2 ∧ mn t[m].f2 t[n].f2 ≤ t[n].f2 ∧ (mn t[m].f2 t[n].f2 = t[m].f2 ∨ mn t[m].f2 t[n].f2 = t[n].f2) := by
    unfold mn
    split <;> omega
  have ga := goodB_iff.1 ha
  have gb := goodB_iff.1 hb
  induction d with
  | zero =>
    intro j hj hd
    refine Ev.succ ?_
    simp only [tree_Tree_Common.l0]
    refine Ev.neg (by omega) (Ev.some ?_)
    have : cp ((movesB t[m]).drop j) ((movesB t[n]).drop j) = 0 := by
      rcases hmn.2.2 with h | h
      · rw [List.drop_eq_nil_of_le (by unfold movesB; rw [gen_length]; omega)]
        cases (movesB t[n]).drop j <;> rfl
      · rw [show (movesB t[n]).drop j = [] from List.drop_eq_nil_of_le (by unfold movesB; rw [gen_length]; omega)]
        cases (movesB t[m]).drop j <;> rfl
    rw [this]
    omega
  | succ d ih =>
    intro j hj hd
    obtain ⟨la, ea⟩ := moves_at ha (show (j : Int) < t[m].f2 by omega)
    obtain ⟨lb, eb⟩ := moves_at hb (show (j : Int) < t[n].f2 by omega)
    have hnext := ih (j + 1) (by omega) (by omega)
    rw [List.drop_eq_getElem_cons la, List.drop_eq_getElem_cons lb, ea, eb]
    simp only [cp]
    have hal := alike ha hb (j : Int)
    refine Ev.succ ?_
    simp only [tree_Tree_Common.l0]
    rw [wrap_at (by omega) (by omega)]
    refine Ev.pos (by omega) (Ev.bind_some (input_in hm _) (Ev.bind_some (input_in hn _) ?_))
    by_cases h1 : ((inOut (findAt (j : Int) t[m].f3)).2.2.2.2 != (inOut (findAt (j : Int) t[n].f3)).2.2.2.2) = true
    · rw [if_pos h1] at hal
      rw [if_neg (by rw [Bool.eq_not] at hal; simpa using hal)]
      exact Ev.pos h1 (Ev.some (by omega))
    · rw [if_neg h1] at hal
      refine Ev.neg h1 ?_
      rw [hal]
      cases he : eqJ (mvOf (findAt (j : Int) t[m].f3)) (mvOf (findAt (j : Int) t[n].f3)) with
      | false => exact Ev.pos rfl (Ev.some (by simp))
      | true =>
        refine Ev.neg (by decide) ?_
        rw [if_pos rfl]
        have e : j + (cp ((movesB t[m]).drop (j + 1)) ((movesB t[n]).drop (j + 1)) + 1) = j + 1 + cp ((movesB t[m]).drop (j + 1)) ((movesB t[n]).drop (j + 1)) := by omega
        rw [e]
        exact hnext
theorem commonT_in {t : List S43} (h : okT t) {m n : Nat} (hm : m < t.length) (hn : n < t.length) : Ev (fun k => tree_Tree_Common.f k t (m : Int) (n : Int)) ((cp (movesB t[m]) (movesB t[n]) : Nat) : Int) := by
  have ha := okT_good h (List.getElem_mem hm)
  have hb := okT_good h (List.getElem_mem hn)
  unfold tree_Tree_Common.f
  refine Ev.bind_some (has_in ⟨by omega, by omega⟩) (Ev.pos rfl (Ev.bind_some (has_in ⟨by omega, by omega⟩) ?_))
  refine Ev.succ ?_
  simp only [tree_Tree_Common.j0]
  rw [rd43 hm, rd43 hn]
  refine Ev.neg (by decide) (Ev.pos (by omega) (Ev.pos (by omega) (Ev.pos (by omega) (Ev.pos (by omega) ?_))))
  have := commonT_l hm hn ha hb _ 0 (by have := goodB_iff.1 ha; have := goodB_iff.1 hb; unfold mn; split <;> omega) rfl
  simpa using this
end Go.Proofs.YtbngfhlciebeeaaDoor.Sp
end
section
namespace Go.Proofs.YtbngfhlciebeeaaDoor.Opn
set_option linter.unusedVariables false
set_option linter.unusedSimpArgs false
open Go.RowKit Go.ChangeShapes Go.WideShapes Go.Proofs.YtbngfhlciebeeaaDoorW.PrintWords
def I64 (n : Int) : Prop := -9223372036854775808 ≤ n ∧ n ≤ 9223372036854775807
theorem i64_of {n : Int} (h : (Lit.int .i64 n).wf = true) : I64 n := bounds_i64 h
section
variable {H : Type} {enc : TypeId × Value → H} {w : World} {base : Nat} {sp : Nat → Bool} {held : Bool}
theorem opens3 : Opens enc Tryd.prog w base sp held 3 (Kd.int .i64) I64 := opens_imp (fun _ h => i64_of h) (opens_int Tryd.underlying3)
theorem opens2 : Opens enc Tryd.prog w base sp held 2 (Kd.int .i64) I64 := opens_imp (fun _ h => i64_of h) (opens_int Tryd.underlying2)
theorem opens9 : Opens enc Tryd.prog w base sp held 9 Kd.string (fun s => s.size ≤ maxLen) := opens_string Tryd.underlying9
theorem opens45 : Opens enc Tryd.prog w base sp held 45 L.k45 (fun x => I64 x.f0 ∧ I64 x.f1 ∧ x.f2.size ≤ maxLen ∧ I64 x.f3) :=
  opens_iso (fun x => ⟨x.1, x.2.1, x.2.2.1, x.2.2.2⟩) (fun _ => rfl)
    (opens_struct Tryd.underlying45 (tot := 4) (by kernel_rfl) (opensF_cons opens3 rfl (opensF_cons opens3 (by kernel_rfl) (opensF_cons opens9 (by kernel_rfl) (opensF_one opens2 (by kernel_rfl) (by kernel_rfl))))))
theorem opens56 : Opens enc Tryd.prog w base sp held 56 L.k56 (fun x => I64 x.f0 ∧ I64 x.f1 ∧ I64 x.f2 ∧ (I64 x.f3.f0 ∧ I64 x.f3.f1 ∧ x.f3.f2.size ≤ maxLen ∧ I64 x.f3.f3)) :=
  opens_iso (fun x => ⟨x.1, x.2.1, x.2.2.1, x.2.2.2⟩) (fun _ => rfl)
    (opens_struct Tryd.underlying56 (tot := 7) (by kernel_rfl) (opensF_cons opens3 rfl (opensF_cons opens3 (by kernel_rfl) (opensF_cons opens3 (by kernel_rfl) (opensF_one opens45 (by kernel_rfl) (by kernel_rfl))))))
theorem opens52 : Opens enc Tryd.prog w base sp held 52 (Kd.slice 56 L.k56) (fun l => l.length ≤ maxLen ∧ ∀ x ∈ l, I64 x.f0 ∧ I64 x.f1 ∧ I64 x.f2 ∧ (I64 x.f3.f0 ∧ I64 x.f3.f1 ∧ x.f3.f2.size ≤ maxLen ∧ I64 x.f3.f3)) := opens_slice Tryd.underlying52 (by kernel_rfl) opens56
end
end Go.Proofs.YtbngfhlciebeeaaDoor.Opn
end
section
namespace Go.Proofs.YtbngfhlciebeeaaDoor.L
open Go.RowKit Go.Proofs.YtbngfhlciebeeaaDoorW.PrintWords Go.Proofs.YtbngfhlciebeeaaDoorW.PrintLast Go.Proofs.YtbngfhlciebeeaaDoorW.PrintMore
attribute [local go_sem] max2_int min2_int max_two min_two max_three min_three max_four min_four   -- for this text's walks alone
set_option linter.unusedVariables false
set_option linter.unusedSimpArgs false
def tree_Tree_Same_1.f (k : Nat) (a0_0 : Int) (a0_1 : Int) (a0_2 : Int) (l0_3 : List (S45)) (a1_0 : Int) (a1_1 : Int) (a1_2 : Int) (l1_3 : List (S45)) : Option (Bool) := if a0_0 = a1_0 then (if a0_1 = a1_1 then (if a0_2 = a1_2 then ((tree_Input.f k l0_3 l1_3).bind fun t603 => (some t603)) else (some false)) else (some false)) else (some false)
set_option maxHeartbeats 8000000 in
set_option maxRecDepth 100000 in
theorem tree_Tree_Same_1.calls (k : Nat) (a0_0 : Int) (a0_1 : Int) (a0_2 : Int) (A0_3 : Option Addr) (c0_3 : Nat) (l0_3 : List (S45)) (a1_0 : Int) (a1_1 : Int) (a1_2 : Int) (A1_3 : Option Addr) (c1_3 : Nat) (l1_3 : List (S45)) (r : Bool) (w : World) (hr0_3 : Kd.C k45 w A0_3 l0_3.length l0_3) (hc0_3 : l0_3.length ≤ c0_3) (hr1_3 : Kd.C k45 w A1_3 l1_3.length l1_3) (hc1_3 : l1_3.length ≤ c1_3) (h : tree_Tree_Same_1.f k a0_0 a0_1 a0_2 l0_3 a1_0 a1_1 a1_2 l1_3 = some r) :
  Calls Tryd.prog 86 #[.agg #[.int .i64 a0_0, .int .i64 a0_1, .int .i64 a0_2, .slice A0_3 l0_3.length c0_3], .agg #[.int .i64 a1_0, .int .i64 a1_1, .int .i64 a1_2, .slice A1_3 l1_3.length c1_3]] w fun e w' => e = .returned (.bool r) ∧ Below w.heap.size w w' := by
 have hu43 := Tryd.underlying43
 have HR0_3 := Aside0.mk hr0_3
 have HC0_3 := Aside0.mk hc0_3
 clear hr0_3 hc0_3
 have HR1_3 := Aside0.mk hr1_3
 have HC1_3 := Aside0.mk hc1_3
 clear hr1_3 hc1_3
 have HB := Aside0.mk (Below.refl w.heap.size w)
 have H : (if a0_0 = a1_0 then (if a0_1 = a1_1 then (if a0_2 = a1_2 then ((tree_Input.f k l0_3 l1_3).bind fun t603 => (some t603)) else (some false)) else (some false)) else (some false)) = some r := h
 clear h
 by_cases c3 : a0_0 = a1_0
 ·rw [if_pos c3] at H
  have c3b0 := beq_iff_eq.mpr c3
  have c3b1 := bne_eq_false_iff_eq.mpr c3
  clear c3
  by_cases c4 : a0_1 = a1_1
  ·rw [if_pos c4] at H
   have c4b0 := beq_iff_eq.mpr c4
   have c4b1 := bne_eq_false_iff_eq.mpr c4
   clear c4
   by_cases c5 : a0_2 = a1_2
   ·rw [if_pos c5] at H
    have c5b0 := beq_iff_eq.mpr c5
    have c5b1 := bne_eq_false_iff_eq.mpr c5
    clear c5
    replace H := Option.bind_eq_some_iff.mp H
    obtain ⟨t603, A60, H⟩ := H
    (try dsimp -simprocs only at H)
    have A6 := Aside0.mk A60
    clear A60
    obtain rfl := Option.some.inj H
    go_enter Tryd.func86, Tryd.ntmps86
    go_wp2_with (first | ((with_reducible refine gd 2 rfl ?_); refine bx 2 #[.int .i64 a0_0, .int .i64 a0_1, .int .i64 a0_2, .slice A0_3 l0_3.length c0_3] 43 ?_; intro gb601 hg w7 hbox hb; have BK601 := Aside0.mk (hbox); have GW601 := geS hg; have GE601 := geS hg; replace HB := bst hb; clear hb hbox hg) | ((with_reducible refine gd 3 rfl ?_); refine bx 3 #[.int .i64 a1_0, .int .i64 a1_1, .int .i64 a1_2, .slice A1_3 l1_3.length c1_3] 43 ?_; intro gb602 hg w8 hbox hb; have BK602 := Aside0.mk (hbox); have GW602 := geS hg; have GE602 := geS hg; have NB601_602 := neS gb601 hg; have NB602_601 := neT gb601 hg; replace BK601 := kb gb601 hb; replace HB := bst hb; clear hb hbox hg; have hnb9 := NB601_602.out; have hnc9 := NB602_601.out; obtain ⟨hcz10_0, hcz10_1, hcz10_2, hcz10_3, hfz10_0, hfz10_1, hfz10_2, hfz10_3⟩ := cells4 BK601.out; obtain ⟨hcz11_0, hcz11_1, hcz11_2, hcz11_3, hfz11_0, hfz11_1, hfz11_2, hfz11_3⟩ := cells4 BK602.out) | (go_at_call 87; (with_reducible refine (tree_Input.calls k _ _ l0_3 _ _ l1_3 t603 _ ?side1 ?side2 ?side3 ?side4 A6.out).mono ?_); (case side1 => exact qC); (case side2 => exact HC0_3.out); (case side3 => exact qC); (case side4 => exact HC1_3.out); rintro e w' ⟨rfl, ⟨nd, rfl⟩⟩))
    go_ret
    exact ⟨qR, qB⟩
   ·rw [if_neg c5] at H
    have c5b0 := beq_eq_false_iff_ne.mpr c5
    have c5b1 := bne_iff_ne.mpr c5
    obtain rfl := Option.some.inj H
    go_enter Tryd.func86, Tryd.ntmps86
    go_wp2_with (first | ((with_reducible refine gd 2 rfl ?_); refine bx 2 #[.int .i64 a0_0, .int .i64 a0_1, .int .i64 a0_2, .slice A0_3 l0_3.length c0_3] 43 ?_; intro gb601 hg w12 hbox hb; have BK601 := Aside0.mk (hbox); have GW601 := geS hg; have GE601 := geS hg; replace HB := bst hb; clear hb hbox hg) | ((with_reducible refine gd 3 rfl ?_); refine bx 3 #[.int .i64 a1_0, .int .i64 a1_1, .int .i64 a1_2, .slice A1_3 l1_3.length c1_3] 43 ?_; intro gb602 hg w13 hbox hb; have BK602 := Aside0.mk (hbox); have GW602 := geS hg; have GE602 := geS hg; have NB601_602 := neS gb601 hg; have NB602_601 := neT gb601 hg; replace BK601 := kb gb601 hb; replace HB := bst hb; clear hb hbox hg; have hnb14 := NB601_602.out; have hnc14 := NB602_601.out; obtain ⟨hcz15_0, hcz15_1, hcz15_2, hcz15_3, hfz15_0, hfz15_1, hfz15_2, hfz15_3⟩ := cells4 BK601.out; obtain ⟨hcz16_0, hcz16_1, hcz16_2, hcz16_3, hfz16_0, hfz16_1, hfz16_2, hfz16_3⟩ := cells4 BK602.out))
    go_ret
    exact ⟨qR, qB⟩
  ·rw [if_neg c4] at H
   have c4b0 := beq_eq_false_iff_ne.mpr c4
   have c4b1 := bne_iff_ne.mpr c4
   obtain rfl := Option.some.inj H
   go_enter Tryd.func86, Tryd.ntmps86
   go_wp2_with (first | ((with_reducible refine gd 2 rfl ?_); refine bx 2 #[.int .i64 a0_0, .int .i64 a0_1, .int .i64 a0_2, .slice A0_3 l0_3.length c0_3] 43 ?_; intro gb601 hg w17 hbox hb; have BK601 := Aside0.mk (hbox); have GW601 := geS hg; have GE601 := geS hg; replace HB := bst hb; clear hb hbox hg) | ((with_reducible refine gd 3 rfl ?_); refine bx 3 #[.int .i64 a1_0, .int .i64 a1_1, .int .i64 a1_2, .slice A1_3 l1_3.length c1_3] 43 ?_; intro gb602 hg w18 hbox hb; have BK602 := Aside0.mk (hbox); have GW602 := geS hg; have GE602 := geS hg; have NB601_602 := neS gb601 hg; have NB602_601 := neT gb601 hg; replace BK601 := kb gb601 hb; replace HB := bst hb; clear hb hbox hg; have hnb19 := NB601_602.out; have hnc19 := NB602_601.out; obtain ⟨hcz20_0, hcz20_1, hcz20_2, hcz20_3, hfz20_0, hfz20_1, hfz20_2, hfz20_3⟩ := cells4 BK601.out; obtain ⟨hcz21_0, hcz21_1, hcz21_2, hcz21_3, hfz21_0, hfz21_1, hfz21_2, hfz21_3⟩ := cells4 BK602.out))
   go_ret
   exact ⟨qR, qB⟩
 ·rw [if_neg c3] at H
  have c3b0 := beq_eq_false_iff_ne.mpr c3
  have c3b1 := bne_iff_ne.mpr c3
  obtain rfl := Option.some.inj H
  go_enter Tryd.func86, Tryd.ntmps86
  go_wp2_with (first | ((with_reducible refine gd 2 rfl ?_); refine bx 2 #[.int .i64 a0_0, .int .i64 a0_1, .int .i64 a0_2, .slice A0_3 l0_3.length c0_3] 43 ?_; intro gb601 hg w22 hbox hb; have BK601 := Aside0.mk (hbox); have GW601 := geS hg; have GE601 := geS hg; replace HB := bst hb; clear hb hbox hg) | ((with_reducible refine gd 3 rfl ?_); refine bx 3 #[.int .i64 a1_0, .int .i64 a1_1, .int .i64 a1_2, .slice A1_3 l1_3.length c1_3] 43 ?_; intro gb602 hg w23 hbox hb; have BK602 := Aside0.mk (hbox); have GW602 := geS hg; have GE602 := geS hg; have NB601_602 := neS gb601 hg; have NB602_601 := neT gb601 hg; replace BK601 := kb gb601 hb; replace HB := bst hb; clear hb hbox hg; have hnb24 := NB601_602.out; have hnc24 := NB602_601.out; obtain ⟨hcz25_0, hcz25_1, hcz25_2, hcz25_3, hfz25_0, hfz25_1, hfz25_2, hfz25_3⟩ := cells4 BK601.out; obtain ⟨hcz26_0, hcz26_1, hcz26_2, hcz26_3, hfz26_0, hfz26_1, hfz26_2, hfz26_3⟩ := cells4 BK602.out))
  go_ret
  exact ⟨qR, qB⟩
end Go.Proofs.YtbngfhlciebeeaaDoor.L
end
