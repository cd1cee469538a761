/- Printed and hand-written steps towards the row (TreeEnds), those that it reaches. -/
import Derived.Test.YtbngfhlciebeeaaDoorTreeEndsG5
import Derived.Test.YtbngfhlciebeeaaDoorTreeEndsG6
import Derived.Test.YtbngfhlciebeeaaDoorTreeEndsG19
import Derived.Test.YtbngfhlciebeeaaDoorTreeEndsG20
namespace Go.Proofs.YtbngfhlciebeeaaDoor.L
open Go.RowKit Go.Proofs.YtbngfhlciebeeaaDoorW.PrintWords Go.Proofs.YtbngfhlciebeeaaDoorW.PrintLast Go.Proofs.YtbngfhlciebeeaaDoorW.PrintMore
attribute [local go_sem] max2_int min2_int max_two min_two max_three min_three max_four min_four   -- for this text's walks alone
set_option linter.unusedVariables false
set_option linter.unusedSimpArgs false
def tree_Tree_forked.j0 : Nat → List (S43) → Int → Bool → Int → Int → Int → List (S45) → Option (Bool)
 | 0, _, _, _, _, _, _, _ => none
 | k + 1, x0, x1, x43, x344000, x344001, x344002, x344003 => if x43 = true then (some false) else ((tree_Tree_Input.f x0 x1 x344001).bind fun bt345 => (if bt345.2.2.2.2 = true then ((tree_Branch_ahead.f k x344000 x344001 x344002 x344003 x344001).bind fun t351 => (if 0 ≤ x344000 then (if x344000 < (x0.length : Int) then ((tree_Branch_ahead.f k ((rd_T43 x0 x344000).f0) ((rd_T43 x0 x344000).f1) ((rd_T43 x0 x344000).f2) ((rd_T43 x0 x344000).f3) x344001).bind fun t355 => ((tree_Input.f k t351 t355).bind fun t358 => (some t358))) else (none)) else (none))) else (some false)))
def tree_Tree_forked.f (k : Nat) (l0 : List (S43)) (a1 : Int) : Option (Bool) := if 0 ≤ a1 then (if a1 < (l0.length : Int) then (if ((rd_T43 l0 a1).f0) < 0 then (tree_Tree_forked.j0 k l0 a1 true ((rd_T43 l0 a1).f0) ((rd_T43 l0 a1).f1) ((rd_T43 l0 a1).f2) ((rd_T43 l0 a1).f3)) else (if ((rd_T43 l0 a1).f0) ≥ a1 then (tree_Tree_forked.j0 k l0 a1 true ((rd_T43 l0 a1).f0) ((rd_T43 l0 a1).f1) ((rd_T43 l0 a1).f2) ((rd_T43 l0 a1).f3)) else (if ((rd_T43 l0 a1).f1) < 0 then (tree_Tree_forked.j0 k l0 a1 true ((rd_T43 l0 a1).f0) ((rd_T43 l0 a1).f1) ((rd_T43 l0 a1).f2) ((rd_T43 l0 a1).f3)) else (if 0 ≤ ((rd_T43 l0 a1).f0) then (if ((rd_T43 l0 a1).f0) < (l0.length : Int) then (if ((rd_T43 l0 a1).f1) ≥ ((rd_T43 l0 ((rd_T43 l0 a1).f0)).f2) then (tree_Tree_forked.j0 k l0 a1 true ((rd_T43 l0 a1).f0) ((rd_T43 l0 a1).f1) ((rd_T43 l0 a1).f2) ((rd_T43 l0 a1).f3)) else (tree_Tree_forked.j0 k l0 a1 (decide (((rd_T43 l0 a1).f2) ≤ ((rd_T43 l0 a1).f1))) ((rd_T43 l0 a1).f0) ((rd_T43 l0 a1).f1) ((rd_T43 l0 a1).f2) ((rd_T43 l0 a1).f3))) else (none)) else (none))))) else (none)) else (none)
def tree_Tree_forked.T2 : Bool × List (List Nat × List Nat) := (true, [([], []), ([0], [0]), ([1], [1]), ([2], [2]), ([3], [3]), ([4, 3], [3, 4]), ([3], [3]), ([5, 6, 3], [3, 5, 6]), ([3, 7], [3, 7]), ([8, 3], [8]), ([9], [9]), ([10, 9], [9, 10]), ([11, 9], [9, 11]), ([9, 12], [9, 12]), ([13, 9], [13]), ([14], [14]), ([15, 14], [14, 15]), ([14], [14]), ([14], [14]), ([18, 14], [14, 18]), ([17, 19, 14], [14, 17, 19]), ([20, 14], [14, 20]), ([21, 14], [14, 21]), ([16, 22, 14], [14, 16, 22]), ([14, 23], [14, 23]), ([24, 14], [24]), ([25], [25]), ([26, 25], [25, 26]), ([25], [25]), ([28, 25], [25, 28]), ([27, 29, 25], [25, 27, 29]), ([25, 30], [25, 30])])
def tree_Tree_forked.B2 : List Nat := [0, 1, 3, 7, 15, 31, 15, 127, 255, 511, 1023, 2047, 4095, 8191, 16383, 32767, 65535, 32767, 32767, 294911, 950271, 1998847, 4095999, 8388607, 16777215, 33554431, 67108863, 134217727, 67108863, 335544319, 1073741823, 2147483647]
theorem tree_Tree_forked.tab2 : rtab .any (opsOf Tryd.f78 2) = tree_Tree_forked.T2 := by kernel_rfl
theorem tree_Tree_forked.bits2 : waitsOk tree_Tree_forked.T2.2 tree_Tree_forked.B2 = true := by kernel_rfl
def tree_Tree_forked.T5 : Bool × List (List Nat × List Nat) := (true, [([], []), ([0], [0]), ([1], [1]), ([1], [1]), ([3, 1], [1, 3]), ([2, 4, 1, 1], [1, 2, 4]), ([1], [1]), ([1], [1]), ([7, 1], [1, 7]), ([6, 8, 1], [1, 6, 8]), ([9, 1], [1, 9]), ([1], [1]), ([11, 1], [1, 11]), ([10, 12, 5, 1], [1, 10, 12]), ([5, 13, 13, 1], [1, 5, 13]), ([1, 14], [1, 14]), ([15, 14, 0, 1, 2, 3, 4, 5, 6, 7, 8, 9, 10, 11, 12, 13, 14, 15], [15])])
def tree_Tree_forked.B5 : List Nat := [0, 1, 3, 3, 11, 31, 3, 3, 131, 451, 963, 3, 2051, 8191, 16383, 32767, 65535]
theorem tree_Tree_forked.tab5 : rtab .any (opsOf Tryd.f78 5) = tree_Tree_forked.T5 := by kernel_rfl
theorem tree_Tree_forked.bits5 : waitsOk tree_Tree_forked.T5.2 tree_Tree_forked.B5 = true := by kernel_rfl
set_option maxHeartbeats 8000000 in
set_option maxRecDepth 100000 in
theorem tree_Tree_forked.calls (k : Nat) (A0 : Option Addr) (c0 : Nat) (l0 : List (S43)) (a1 : Int) (r : Bool) (w : World) (hr0 : Kd.C k43 w A0 l0.length l0) (hc0 : l0.length ≤ c0) (h : tree_Tree_forked.f k l0 a1 = some r) :
  Calls Tryd.prog 78 #[.slice A0 l0.length c0, .int .i64 a1] w fun e w' => e = .returned (.bool r) ∧ Below w.heap.size w w' := by
 have hu43 := Tryd.underlying43
 have hu45 := Tryd.underlying45
 have HR0 := Aside0.mk hr0
 have HC0 := Aside0.mk hc0
 clear hr0 hc0
 have HB := Aside0.mk (Below.refl w.heap.size w)
 have H : (if 0 ≤ a1 then (if a1 < (l0.length : Int) then (if ((rd_T43 l0 a1).f0) < 0 then (tree_Tree_forked.j0 k l0 a1 true ((rd_T43 l0 a1).f0) ((rd_T43 l0 a1).f1) ((rd_T43 l0 a1).f2) ((rd_T43 l0 a1).f3)) else (if ((rd_T43 l0 a1).f0) ≥ a1 then (tree_Tree_forked.j0 k l0 a1 true ((rd_T43 l0 a1).f0) ((rd_T43 l0 a1).f1) ((rd_T43 l0 a1).f2) ((rd_T43 l0 a1).f3)) else (if ((rd_T43 l0 a1).f1) < 0 then (tree_Tree_forked.j0 k l0 a1 true ((rd_T43 l0 a1).f0) ((rd_T43 l0 a1).f1) ((rd_T43 l0 a1).f2) ((rd_T43 l0 a1).f3)) else (if 0 ≤ ((rd_T43 l0 a1).f0) then (if ((rd_T43 l0 a1).f0) < (l0.length : Int) then (if ((rd_T43 l0 a1).f1) ≥ ((rd_T43 l0 ((rd_T43 l0 a1).f0)).f2) then (tree_Tree_forked.j0 k l0 a1 true ((rd_T43 l0 a1).f0) ((rd_T43 l0 a1).f1) ((rd_T43 l0 a1).f2) ((rd_T43 l0 a1).f3)) else (tree_Tree_forked.j0 k l0 a1 (decide (((rd_T43 l0 a1).f2) ≤ ((rd_T43 l0 a1).f1))) ((rd_T43 l0 a1).f0) ((rd_T43 l0 a1).f1) ((rd_T43 l0 a1).f2) ((rd_T43 l0 a1).f3))) else (none)) else (none))))) else (none)) else (none)) = some r := h
 clear h
 by_cases c3 : 0 ≤ a1
 ·rw [if_pos c3] at H
  have c3b0 := decide_eq_true c3
  clear c3
  replace H := iD H
  rcases H with ⟨c4b0, H⟩ | ⟨c4b0, H⟩
  ·have HC5 := Aside0.mk H
   clear H
   have p342 : 0 ≤ (a1 : Int) := qD
   have q342 : a1 < (l0.length : Int) := qD
   obtain ⟨ad342, A342_3, c342_3, e342, hx342_0, hx342_1, hx342_2, hx342_3, hl342_3, hi342_3⟩ := at_T43 HR0.out a1 p342 q342
   cases e342
   have HR342_3 := Aside0.mk hi342_3
   have HC342_3 := Aside0.mk hl342_3
   clear hi342_3 hl342_3
   replace p342 := eq_true p342
   replace q342 := eq_true q342
   go_enter Tryd.func78, Tryd.ntmps78
   go_upto_region 2 with (first | ((with_reducible refine gd 5 rfl ?_); refine bx 5 #[.int .i64 0, .int .i64 0, .int .i64 0, .slice none 0 0] 43 ?_; intro gb343 hg w6 hbox hb; have BK343 := Aside0.mk (hbox); have GW343 := geS hg; have GE343 := geS hg; replace HB := bst hb; clear hb hbox hg; obtain ⟨hcz7_0, hcz7_1, hcz7_2, hcz7_3, hfz7_0, hfz7_1, hfz7_2, hfz7_3⟩ := cells4 BK343.out))
   (try simp only [Act.put, List.setIfInBounds_toArray, List.set_cons_zero, List.set_cons_succ])
   go_cut [43] (fun v43 wc => ∃ (kq : Nat) (x43_4 : Bool), v43 = .bool x43_4 ∧ Aside0 (tree_Tree_forked.j0 kq l0 a1 x43_4 ((rd_T43 l0 a1).f0) ((rd_T43 l0 a1).f1) ((rd_T43 l0 a1).f2) ((rd_T43 l0 a1).f3) = some r) ∧ Aside0 (kq ≤ k) ∧ Aside0 (wc.heap[gb343]? = some (.cells #[.int .i64 ((rd_T43 l0 a1).f0), .int .i64 ((rd_T43 l0 a1).f1), .int .i64 ((rd_T43 l0 a1).f2), (.slice A342_3 ((rd_T43 l0 a1).f3).length c342_3)] 43 (0, 0))) ∧ Aside0 (Below w.heap.size w wc))
   case first =>
    have H := HC5.out
    clear HC5
    replace H := iD H
    rcases H with ⟨c8b0, H⟩ | ⟨c8b0, H⟩
    ·(first | rw [c8b0] | (simp only [i64_w, i32_w]; rw [c8b0]) | skip)
     have H' := Aside0.mk H
     clear H
     try go_wp2
     have n0_ : Aside0 (((((w6.setCell ⟨gb343, 0, none⟩ (.int .i64 ((rd_T43 l0 a1).f0))).setCell ⟨gb343, 1, none⟩ (.int .i64 ((rd_T43 l0 a1).f1))).setCell ⟨gb343, 2, none⟩ (.int .i64 ((rd_T43 l0 a1).f2))).setCell ⟨gb343, 3, none⟩ (.slice A342_3 ((rd_T43 l0 a1).f3).length c342_3)).heap[gb343]? = some (.cells #[.int .i64 ((rd_T43 l0 a1).f0), .int .i64 ((rd_T43 l0 a1).f1), .int .i64 ((rd_T43 l0 a1).f2), .slice A342_3 ((rd_T43 l0 a1).f3).length c342_3] 43 (0, 0))) := ⟨qP⟩
     have n1_ : Aside0 (Below w.heap.size w ((((w6.setCell ⟨gb343, 0, none⟩ (.int .i64 ((rd_T43 l0 a1).f0))).setCell ⟨gb343, 1, none⟩ (.int .i64 ((rd_T43 l0 a1).f1))).setCell ⟨gb343, 2, none⟩ (.int .i64 ((rd_T43 l0 a1).f2))).setCell ⟨gb343, 3, none⟩ (.slice A342_3 ((rd_T43 l0 a1).f3).length c342_3))) := ⟨qB⟩
     (try clear BK343)
     (try clear HB)
     generalize ((((w6.setCell ⟨gb343, 0, none⟩ (.int .i64 ((rd_T43 l0 a1).f0))).setCell ⟨gb343, 1, none⟩ (.int .i64 ((rd_T43 l0 a1).f1))).setCell ⟨gb343, 2, none⟩ (.int .i64 ((rd_T43 l0 a1).f2))).setCell ⟨gb343, 3, none⟩ (.slice A342_3 ((rd_T43 l0 a1).f3).length c342_3)) = w9 at n0_ n1_ ⊢
     have BK343 := n0_
     have HB := n1_
     clear n0_ n1_
     replace BK343 := Aside0.mk (blk_drew BK343.out)
     replace HB := Aside0.mk (below_drew1 HB.out)
     refine start_ (n := 32) (S := fun w' => w'.cell? ⟨gb343, 0, none⟩ = some (.int .i64 ((rd_T43 l0 a1).f0)) ∧ w'.cell? ⟨gb343, 1, none⟩ = some (.int .i64 ((rd_T43 l0 a1).f1)) ∧ w'.cell? ⟨gb343, 2, none⟩ = some (.int .i64 ((rd_T43 l0 a1).f2)) ∧ w'.cell? ⟨gb343, 3, none⟩ = some (.slice A342_3 ((rd_T43 l0 a1).f3).length c342_3)) (ds := []) _ (by kernel_rfl) rfl (fls 32) ⟨(blk_cell BK343.out 0).trans rfl, (blk_cell BK343.out 1).trans rfl, (blk_cell BK343.out 2).trans rfl, (blk_cell BK343.out 3).trans rfl⟩ (fun hHeld => ?_); refine with_tabW tree_Tree_forked.tab2 tree_Tree_forked.bits2 (fun HT_ HW_ => ?_)
     generalize w9.drew = w10 at BK343 HB hHeld ⊢
     refine pu 0 12 ?_; refine tk 1 13 ?_
     refine pu 2 14 ?_; refine pu 3 15 ?_
     refine po 4 16 ?_; refine po 5 17 ?_
     refine po 6 18 ?_; refine po 7 19 ?_
     refine pu 8 20 ?_; refine pu 9 21 ?_
     refine po 10 22 ?_; refine po 11 23 ?_
     refine po 12 24 ?_; refine pu 13 25 ?_
     refine pu 14 26 ?_; refine po 15 27 ?_
     refine po 16 28 ?_; refine po 17 29 ?_
     refine po 18 30 ?_; refine po 19 31 ?_
     refine po 20 32 ?_; refine po 21 33 ?_
     refine po 22 34 ?_; refine po 23 35 ?_
     refine pu 24 36 ?_; refine pu 25 37 ?_
     refine po 26 38 ?_; refine po 27 39 ?_
     refine po 28 40 ?_; refine po 29 41 ?_
     refine po 30 42 ?_; refine pu 31 43 ?_
     refine done_ (done_of HT_.out (by kernel_rfl)) ?_
     try go_wp2
     go_meet
     case rel => exact ⟨_, (true), (by first | rfl | (simp; done) | (simp [*]; done)), H', ⟨by first | omega | exact Nat.le_refl _⟩, ⟨qK⟩, ⟨qB⟩⟩
    ·(first | rw [c8b0] | (simp only [i64_w, i32_w]; rw [c8b0]) | skip)
     replace H := iD H
     rcases H with ⟨c11b0, H⟩ | ⟨c11b0, H⟩
     ·have H' := Aside0.mk H
      clear H
      try go_wp2
      have n0_ : Aside0 (((((w6.setCell ⟨gb343, 0, none⟩ (.int .i64 ((rd_T43 l0 a1).f0))).setCell ⟨gb343, 1, none⟩ (.int .i64 ((rd_T43 l0 a1).f1))).setCell ⟨gb343, 2, none⟩ (.int .i64 ((rd_T43 l0 a1).f2))).setCell ⟨gb343, 3, none⟩ (.slice A342_3 ((rd_T43 l0 a1).f3).length c342_3)).heap[gb343]? = some (.cells #[.int .i64 ((rd_T43 l0 a1).f0), .int .i64 ((rd_T43 l0 a1).f1), .int .i64 ((rd_T43 l0 a1).f2), .slice A342_3 ((rd_T43 l0 a1).f3).length c342_3] 43 (0, 0))) := ⟨qP⟩
      have n1_ : Aside0 (Below w.heap.size w ((((w6.setCell ⟨gb343, 0, none⟩ (.int .i64 ((rd_T43 l0 a1).f0))).setCell ⟨gb343, 1, none⟩ (.int .i64 ((rd_T43 l0 a1).f1))).setCell ⟨gb343, 2, none⟩ (.int .i64 ((rd_T43 l0 a1).f2))).setCell ⟨gb343, 3, none⟩ (.slice A342_3 ((rd_T43 l0 a1).f3).length c342_3))) := ⟨qB⟩
      (try clear BK343)
      (try clear HB)
      generalize ((((w6.setCell ⟨gb343, 0, none⟩ (.int .i64 ((rd_T43 l0 a1).f0))).setCell ⟨gb343, 1, none⟩ (.int .i64 ((rd_T43 l0 a1).f1))).setCell ⟨gb343, 2, none⟩ (.int .i64 ((rd_T43 l0 a1).f2))).setCell ⟨gb343, 3, none⟩ (.slice A342_3 ((rd_T43 l0 a1).f3).length c342_3)) = w12 at n0_ n1_ ⊢
      have BK343 := n0_
      have HB := n1_
      clear n0_ n1_
      replace BK343 := Aside0.mk (blk_drew BK343.out)
      replace HB := Aside0.mk (below_drew1 HB.out)
      refine start_ (n := 32) (S := fun w' => w'.cell? ⟨gb343, 0, none⟩ = some (.int .i64 ((rd_T43 l0 a1).f0)) ∧ w'.cell? ⟨gb343, 1, none⟩ = some (.int .i64 ((rd_T43 l0 a1).f1)) ∧ w'.cell? ⟨gb343, 2, none⟩ = some (.int .i64 ((rd_T43 l0 a1).f2)) ∧ w'.cell? ⟨gb343, 3, none⟩ = some (.slice A342_3 ((rd_T43 l0 a1).f3).length c342_3)) (ds := []) _ (by kernel_rfl) rfl (fls 32) ⟨(blk_cell BK343.out 0).trans rfl, (blk_cell BK343.out 1).trans rfl, (blk_cell BK343.out 2).trans rfl, (blk_cell BK343.out 3).trans rfl⟩ (fun hHeld => ?_); refine with_tabW tree_Tree_forked.tab2 tree_Tree_forked.bits2 (fun HT_ HW_ => ?_)
      generalize w12.drew = w13 at BK343 HB hHeld ⊢
      refine pu 0 12 ?_; refine tk 1 13 ?_
      refine pu 2 14 ?_; refine pu 3 15 ?_
      refine pu 4 16 ?_; refine pu 6 18 ?_
      refine tk 5 17 ?_; refine pu 7 19 ?_
      refine pu 8 20 ?_; refine pu 9 21 ?_
      refine po 10 22 ?_; refine po 11 23 ?_
      refine po 12 24 ?_; refine pu 13 25 ?_
      refine pu 14 26 ?_; refine po 15 27 ?_
      refine po 16 28 ?_; refine po 17 29 ?_
      refine po 18 30 ?_; refine po 19 31 ?_
      refine po 20 32 ?_; refine po 21 33 ?_
      refine po 22 34 ?_; refine po 23 35 ?_
      refine pu 24 36 ?_; refine pu 25 37 ?_
      refine po 26 38 ?_; refine po 27 39 ?_
      refine po 28 40 ?_; refine po 29 41 ?_
      refine po 30 42 ?_; refine pu 31 43 ?_
      refine done_ (done_of HT_.out (by kernel_rfl)) ?_
      try go_wp2
      go_meet
      case rel => exact ⟨_, (true), (by first | rfl | (simp; done) | (simp [*]; done)), H', ⟨by first | omega | exact Nat.le_refl _⟩, ⟨qK⟩, ⟨qB⟩⟩
     ·by_cases c14 : ((rd_T43 l0 a1).f1) < 0
      ·rw [if_pos c14] at H
       have c14b0 := decide_eq_true c14
       clear c14
       have H' := Aside0.mk H
       clear H
       try go_wp2
       have n0_ : Aside0 (((((w6.setCell ⟨gb343, 0, none⟩ (.int .i64 ((rd_T43 l0 a1).f0))).setCell ⟨gb343, 1, none⟩ (.int .i64 ((rd_T43 l0 a1).f1))).setCell ⟨gb343, 2, none⟩ (.int .i64 ((rd_T43 l0 a1).f2))).setCell ⟨gb343, 3, none⟩ (.slice A342_3 ((rd_T43 l0 a1).f3).length c342_3)).heap[gb343]? = some (.cells #[.int .i64 ((rd_T43 l0 a1).f0), .int .i64 ((rd_T43 l0 a1).f1), .int .i64 ((rd_T43 l0 a1).f2), .slice A342_3 ((rd_T43 l0 a1).f3).length c342_3] 43 (0, 0))) := ⟨qP⟩
       have n1_ : Aside0 (Below w.heap.size w ((((w6.setCell ⟨gb343, 0, none⟩ (.int .i64 ((rd_T43 l0 a1).f0))).setCell ⟨gb343, 1, none⟩ (.int .i64 ((rd_T43 l0 a1).f1))).setCell ⟨gb343, 2, none⟩ (.int .i64 ((rd_T43 l0 a1).f2))).setCell ⟨gb343, 3, none⟩ (.slice A342_3 ((rd_T43 l0 a1).f3).length c342_3))) := ⟨qB⟩
       (try clear BK343)
       (try clear HB)
       generalize ((((w6.setCell ⟨gb343, 0, none⟩ (.int .i64 ((rd_T43 l0 a1).f0))).setCell ⟨gb343, 1, none⟩ (.int .i64 ((rd_T43 l0 a1).f1))).setCell ⟨gb343, 2, none⟩ (.int .i64 ((rd_T43 l0 a1).f2))).setCell ⟨gb343, 3, none⟩ (.slice A342_3 ((rd_T43 l0 a1).f3).length c342_3)) = w15 at n0_ n1_ ⊢
       have BK343 := n0_
       have HB := n1_
       clear n0_ n1_
       replace BK343 := Aside0.mk (blk_drew BK343.out)
       replace HB := Aside0.mk (below_drew1 HB.out)
       refine start_ (n := 32) (S := fun w' => w'.cell? ⟨gb343, 0, none⟩ = some (.int .i64 ((rd_T43 l0 a1).f0)) ∧ w'.cell? ⟨gb343, 1, none⟩ = some (.int .i64 ((rd_T43 l0 a1).f1)) ∧ w'.cell? ⟨gb343, 2, none⟩ = some (.int .i64 ((rd_T43 l0 a1).f2)) ∧ w'.cell? ⟨gb343, 3, none⟩ = some (.slice A342_3 ((rd_T43 l0 a1).f3).length c342_3)) (ds := []) _ (by kernel_rfl) rfl (fls 32) ⟨(blk_cell BK343.out 0).trans rfl, (blk_cell BK343.out 1).trans rfl, (blk_cell BK343.out 2).trans rfl, (blk_cell BK343.out 3).trans rfl⟩ (fun hHeld => ?_); refine with_tabW tree_Tree_forked.tab2 tree_Tree_forked.bits2 (fun HT_ HW_ => ?_)
       generalize w15.drew = w16 at BK343 HB hHeld ⊢
       refine pu 0 12 ?_; refine tk 1 13 ?_
       refine pu 2 14 ?_; refine pu 3 15 ?_
       refine pu 4 16 ?_; refine pu 6 18 ?_
       refine tk 5 17 ?_; refine pu 7 19 ?_
       refine pu 8 20 ?_; refine pu 9 21 ?_
       refine pu 10 22 ?_; refine tk 11 23 ?_
       refine pu 12 24 ?_; refine pu 13 25 ?_
       refine pu 14 26 ?_; refine po 15 27 ?_
       refine po 16 28 ?_; refine po 17 29 ?_
       refine po 18 30 ?_; refine po 19 31 ?_
       refine po 20 32 ?_; refine po 21 33 ?_
       refine po 22 34 ?_; refine po 23 35 ?_
       refine pu 24 36 ?_; refine pu 25 37 ?_
       refine po 26 38 ?_; refine po 27 39 ?_
       refine po 28 40 ?_; refine po 29 41 ?_
       refine po 30 42 ?_; refine pu 31 43 ?_
       refine done_ (done_of HT_.out (by kernel_rfl)) ?_
       try go_wp2
       go_meet
       case rel => exact ⟨_, (true), (by first | rfl | (simp; done) | (simp [*]; done)), H', ⟨by first | omega | exact Nat.le_refl _⟩, ⟨qK⟩, ⟨qB⟩⟩
      ·rw [if_neg c14] at H
       have c14b0 := decide_eq_false c14
       clear c14
       replace H := iD H
       rcases H with ⟨c17b0, H⟩ | ⟨c17b0, H⟩
       ·by_cases c18 : ((rd_T43 l0 a1).f0) < (l0.length : Int)
        ·rw [if_pos c18] at H
         have c18b0 := decide_eq_true c18
         clear c18
         replace H := iD H
         rcases H with ⟨c19b0, H⟩ | ⟨c19b0, H⟩
         ·have H' := Aside0.mk H
          clear H
          try go_wp2
          have n0_ : Aside0 (((((w6.setCell ⟨gb343, 0, none⟩ (.int .i64 ((rd_T43 l0 a1).f0))).setCell ⟨gb343, 1, none⟩ (.int .i64 ((rd_T43 l0 a1).f1))).setCell ⟨gb343, 2, none⟩ (.int .i64 ((rd_T43 l0 a1).f2))).setCell ⟨gb343, 3, none⟩ (.slice A342_3 ((rd_T43 l0 a1).f3).length c342_3)).heap[gb343]? = some (.cells #[.int .i64 ((rd_T43 l0 a1).f0), .int .i64 ((rd_T43 l0 a1).f1), .int .i64 ((rd_T43 l0 a1).f2), .slice A342_3 ((rd_T43 l0 a1).f3).length c342_3] 43 (0, 0))) := ⟨qP⟩
          have n1_ : Aside0 (Below w.heap.size w ((((w6.setCell ⟨gb343, 0, none⟩ (.int .i64 ((rd_T43 l0 a1).f0))).setCell ⟨gb343, 1, none⟩ (.int .i64 ((rd_T43 l0 a1).f1))).setCell ⟨gb343, 2, none⟩ (.int .i64 ((rd_T43 l0 a1).f2))).setCell ⟨gb343, 3, none⟩ (.slice A342_3 ((rd_T43 l0 a1).f3).length c342_3))) := ⟨qB⟩
          (try clear BK343)
          (try clear HB)
          generalize ((((w6.setCell ⟨gb343, 0, none⟩ (.int .i64 ((rd_T43 l0 a1).f0))).setCell ⟨gb343, 1, none⟩ (.int .i64 ((rd_T43 l0 a1).f1))).setCell ⟨gb343, 2, none⟩ (.int .i64 ((rd_T43 l0 a1).f2))).setCell ⟨gb343, 3, none⟩ (.slice A342_3 ((rd_T43 l0 a1).f3).length c342_3)) = w20 at n0_ n1_ ⊢
          have BK343 := n0_
          have HB := n1_
          clear n0_ n1_
          replace BK343 := Aside0.mk (blk_drew BK343.out)
          replace HB := Aside0.mk (below_drew1 HB.out)
          have p344 : 0 ≤ (((rd_T43 l0 a1).f0) : Int) := qD
          have q344 : ((rd_T43 l0 a1).f0) < (l0.length : Int) := qD
          obtain ⟨ad344, A344_3, c344_3, e344, hx344_0, hx344_1, hx344_2, hx344_3, hl344_3, hi344_3⟩ := at_T43 HR0.out ((rd_T43 l0 a1).f0) p344 q344
          have hw344_3 := hx344_3
          have hw344_2 := hx344_2
          have hw344_1 := hx344_1
          have hw344_0 := hx344_0
          obtain rfl : ad342 = ad344 := (by injection e344)
          replace hx344_0 := pw_cell_below HB.out hx344_0
          replace hx344_1 := pw_cell_below HB.out hx344_1
          replace hx344_2 := pw_cell_below HB.out hx344_2
          replace hx344_3 := pw_cell_below HB.out hx344_3
          have HR344_3 := Aside0.mk hi344_3
          have HC344_3 := Aside0.mk hl344_3
          clear hi344_3 hl344_3
          replace p344 := eq_true p344
          replace q344 := eq_true q344
          refine start_ (n := 32) (S := fun w' => w'.cell? ⟨gb343, 0, none⟩ = some (.int .i64 ((rd_T43 l0 a1).f0)) ∧ w'.cell? ⟨gb343, 1, none⟩ = some (.int .i64 ((rd_T43 l0 a1).f1)) ∧ w'.cell? ⟨gb343, 2, none⟩ = some (.int .i64 ((rd_T43 l0 a1).f2)) ∧ w'.cell? ⟨gb343, 3, none⟩ = some (.slice A342_3 ((rd_T43 l0 a1).f3).length c342_3) ∧ w'.cell? (ad342.add ((((rd_T43 l0 a1).f0)).toNat * 4)) = some (.int .i64 ((rd_T43 l0 ((rd_T43 l0 a1).f0)).f0)) ∧ w'.cell? ⟨(ad342.add ((((rd_T43 l0 a1).f0)).toNat * 4)).block, (ad342.add ((((rd_T43 l0 a1).f0)).toNat * 4)).off + 1, none⟩ = some (.int .i64 ((rd_T43 l0 ((rd_T43 l0 a1).f0)).f1)) ∧ w'.cell? ⟨(ad342.add ((((rd_T43 l0 a1).f0)).toNat * 4)).block, (ad342.add ((((rd_T43 l0 a1).f0)).toNat * 4)).off + 2, none⟩ = some (.int .i64 ((rd_T43 l0 ((rd_T43 l0 a1).f0)).f2)) ∧ w'.cell? ⟨(ad342.add ((((rd_T43 l0 a1).f0)).toNat * 4)).block, (ad342.add ((((rd_T43 l0 a1).f0)).toNat * 4)).off + 3, none⟩ = some (.slice A344_3 ((rd_T43 l0 ((rd_T43 l0 a1).f0)).f3).length c344_3)) (ds := []) _ (by kernel_rfl) rfl (fls 32) ⟨(blk_cell BK343.out 0).trans rfl, (blk_cell BK343.out 1).trans rfl, (blk_cell BK343.out 2).trans rfl, (blk_cell BK343.out 3).trans rfl, ((HB.out.cell (World.block_lt_of_cell? w _ hw344_0)).trans hw344_0), ((HB.out.cell (World.block_lt_of_cell? w _ hw344_1)).trans hw344_1), ((HB.out.cell (World.block_lt_of_cell? w _ hw344_2)).trans hw344_2), ((HB.out.cell (World.block_lt_of_cell? w _ hw344_3)).trans hw344_3)⟩ (fun hHeld => ?_); refine with_tabW tree_Tree_forked.tab2 tree_Tree_forked.bits2 (fun HT_ HW_ => ?_)
          generalize w20.drew = w21 at BK343 HB HR344_3 hx344_0 hx344_1 hx344_2 hx344_3 hHeld ⊢
          refine pu 0 12 ?_; refine tk 1 13 ?_
          refine pu 2 14 ?_; refine pu 3 15 ?_
          refine pu 4 16 ?_; refine pu 6 18 ?_
          refine tk 5 17 ?_; refine pu 7 19 ?_
          refine pu 8 20 ?_; refine pu 9 21 ?_
          refine pu 10 22 ?_; refine tk 11 23 ?_
          refine pu 12 24 ?_; refine pu 13 25 ?_
          refine pu 14 26 ?_; refine pu 15 27 ?_
          refine pu 17 29 ?_; refine pu 18 30 ?_
          refine tk 16 28 ?_; refine tk 19 31 ?_
          refine pu 20 32 ?_; refine pu 21 33 ?_
          refine tk 22 34 ?_; refine pu 23 35 ?_
          refine pu 24 36 ?_; refine pu 25 37 ?_
          refine po 26 38 ?_; refine po 27 39 ?_
          refine po 28 40 ?_; refine po 29 41 ?_
          refine po 30 42 ?_; refine pu 31 43 ?_
          refine done_ (done_of HT_.out (by kernel_rfl)) ?_
          try go_wp2
          go_meet
          case rel => exact ⟨_, (true), (by first | rfl | (simp; done) | (simp [*]; done)), H', ⟨by first | omega | exact Nat.le_refl _⟩, ⟨qK⟩, ⟨qB⟩⟩
         ·have H' := Aside0.mk H
          clear H
          try go_wp2
          have n0_ : Aside0 (((((w6.setCell ⟨gb343, 0, none⟩ (.int .i64 ((rd_T43 l0 a1).f0))).setCell ⟨gb343, 1, none⟩ (.int .i64 ((rd_T43 l0 a1).f1))).setCell ⟨gb343, 2, none⟩ (.int .i64 ((rd_T43 l0 a1).f2))).setCell ⟨gb343, 3, none⟩ (.slice A342_3 ((rd_T43 l0 a1).f3).length c342_3)).heap[gb343]? = some (.cells #[.int .i64 ((rd_T43 l0 a1).f0), .int .i64 ((rd_T43 l0 a1).f1), .int .i64 ((rd_T43 l0 a1).f2), .slice A342_3 ((rd_T43 l0 a1).f3).length c342_3] 43 (0, 0))) := ⟨qP⟩
          have n1_ : Aside0 (Below w.heap.size w ((((w6.setCell ⟨gb343, 0, none⟩ (.int .i64 ((rd_T43 l0 a1).f0))).setCell ⟨gb343, 1, none⟩ (.int .i64 ((rd_T43 l0 a1).f1))).setCell ⟨gb343, 2, none⟩ (.int .i64 ((rd_T43 l0 a1).f2))).setCell ⟨gb343, 3, none⟩ (.slice A342_3 ((rd_T43 l0 a1).f3).length c342_3))) := ⟨qB⟩
          (try clear BK343)
          (try clear HB)
          generalize ((((w6.setCell ⟨gb343, 0, none⟩ (.int .i64 ((rd_T43 l0 a1).f0))).setCell ⟨gb343, 1, none⟩ (.int .i64 ((rd_T43 l0 a1).f1))).setCell ⟨gb343, 2, none⟩ (.int .i64 ((rd_T43 l0 a1).f2))).setCell ⟨gb343, 3, none⟩ (.slice A342_3 ((rd_T43 l0 a1).f3).length c342_3)) = w22 at n0_ n1_ ⊢
          have BK343 := n0_
          have HB := n1_
          clear n0_ n1_
          replace BK343 := Aside0.mk (blk_drew BK343.out)
          replace HB := Aside0.mk (below_drew1 HB.out)
          have p344 : 0 ≤ (((rd_T43 l0 a1).f0) : Int) := qD
          have q344 : ((rd_T43 l0 a1).f0) < (l0.length : Int) := qD
          obtain ⟨ad344, A344_3, c344_3, e344, hx344_0, hx344_1, hx344_2, hx344_3, hl344_3, hi344_3⟩ := at_T43 HR0.out ((rd_T43 l0 a1).f0) p344 q344
          have hw344_3 := hx344_3
          have hw344_2 := hx344_2
          have hw344_1 := hx344_1
          have hw344_0 := hx344_0
          obtain rfl : ad342 = ad344 := (by injection e344)
          replace hx344_0 := pw_cell_below HB.out hx344_0
          replace hx344_1 := pw_cell_below HB.out hx344_1
          replace hx344_2 := pw_cell_below HB.out hx344_2
          replace hx344_3 := pw_cell_below HB.out hx344_3
          have HR344_3 := Aside0.mk hi344_3
          have HC344_3 := Aside0.mk hl344_3
          clear hi344_3 hl344_3
          replace p344 := eq_true p344
          replace q344 := eq_true q344
          refine start_ (n := 32) (S := fun w' => w'.cell? ⟨gb343, 0, none⟩ = some (.int .i64 ((rd_T43 l0 a1).f0)) ∧ w'.cell? ⟨gb343, 1, none⟩ = some (.int .i64 ((rd_T43 l0 a1).f1)) ∧ w'.cell? ⟨gb343, 2, none⟩ = some (.int .i64 ((rd_T43 l0 a1).f2)) ∧ w'.cell? ⟨gb343, 3, none⟩ = some (.slice A342_3 ((rd_T43 l0 a1).f3).length c342_3) ∧ w'.cell? (ad342.add ((((rd_T43 l0 a1).f0)).toNat * 4)) = some (.int .i64 ((rd_T43 l0 ((rd_T43 l0 a1).f0)).f0)) ∧ w'.cell? ⟨(ad342.add ((((rd_T43 l0 a1).f0)).toNat * 4)).block, (ad342.add ((((rd_T43 l0 a1).f0)).toNat * 4)).off + 1, none⟩ = some (.int .i64 ((rd_T43 l0 ((rd_T43 l0 a1).f0)).f1)) ∧ w'.cell? ⟨(ad342.add ((((rd_T43 l0 a1).f0)).toNat * 4)).block, (ad342.add ((((rd_T43 l0 a1).f0)).toNat * 4)).off + 2, none⟩ = some (.int .i64 ((rd_T43 l0 ((rd_T43 l0 a1).f0)).f2)) ∧ w'.cell? ⟨(ad342.add ((((rd_T43 l0 a1).f0)).toNat * 4)).block, (ad342.add ((((rd_T43 l0 a1).f0)).toNat * 4)).off + 3, none⟩ = some (.slice A344_3 ((rd_T43 l0 ((rd_T43 l0 a1).f0)).f3).length c344_3)) (ds := []) _ (by kernel_rfl) rfl (fls 32) ⟨(blk_cell BK343.out 0).trans rfl, (blk_cell BK343.out 1).trans rfl, (blk_cell BK343.out 2).trans rfl, (blk_cell BK343.out 3).trans rfl, ((HB.out.cell (World.block_lt_of_cell? w _ hw344_0)).trans hw344_0), ((HB.out.cell (World.block_lt_of_cell? w _ hw344_1)).trans hw344_1), ((HB.out.cell (World.block_lt_of_cell? w _ hw344_2)).trans hw344_2), ((HB.out.cell (World.block_lt_of_cell? w _ hw344_3)).trans hw344_3)⟩ (fun hHeld => ?_); refine with_tabW tree_Tree_forked.tab2 tree_Tree_forked.bits2 (fun HT_ HW_ => ?_)
          generalize w22.drew = w23 at BK343 HB HR344_3 hx344_0 hx344_1 hx344_2 hx344_3 hHeld ⊢
          refine pu 0 12 ?_; refine tk 1 13 ?_
          refine pu 2 14 ?_; refine pu 3 15 ?_
          refine pu 4 16 ?_; refine pu 6 18 ?_
          refine tk 5 17 ?_; refine pu 7 19 ?_
          refine pu 8 20 ?_; refine pu 9 21 ?_
          refine pu 10 22 ?_; refine tk 11 23 ?_
          refine pu 12 24 ?_; refine pu 13 25 ?_
          refine pu 14 26 ?_; refine pu 15 27 ?_
          refine pu 17 29 ?_; refine pu 18 30 ?_
          refine tk 16 28 ?_; refine tk 19 31 ?_
          refine pu 20 32 ?_; refine pu 21 33 ?_
          refine tk 22 34 ?_; refine pu 23 35 ?_
          refine pu 24 36 ?_; refine pu 25 37 ?_
          refine pu 26 38 ?_; refine pu 28 40 ?_
          refine tk 27 39 ?_; refine tk 29 41 ?_
          refine pu 30 42 ?_; refine pu 31 43 ?_
          refine done_ (done_of HT_.out (by kernel_rfl)) ?_
          try go_wp2
          go_meet
          case rel => exact ⟨_, (decide (((rd_T43 l0 a1).f2) ≤ ((rd_T43 l0 a1).f1))), (by first | rfl | (simp; done) | (simp [*]; done)), H', ⟨by first | omega | exact Nat.le_refl _⟩, ⟨qK⟩, ⟨qB⟩⟩
        ·rw [if_neg c18] at H
         exact absurd H (by simp)
       ·exact absurd H (by simp)
   case rest =>
    clear HC5
    try clear c1
    try clear p2
    try clear c3
    try clear p3
    try clear q3
    try clear hx3
    try clear c14
    try clear c14b0
    try clear c17
    try clear c17b0
    try clear c18
    try clear c18b0
    try clear c19
    try clear c19b0
    try clear hx344_0
    try clear hx344_1
    try clear hx344_2
    try clear hx344_3
    try clear p344
    try clear q344
    obtain ⟨kq, x43_4, rfl, HA, HJ4, BK343, HB⟩ := hcut
    cases kq with
    | zero => exact absurd HA.out (by simp [tree_Tree_forked.j0])
    | succ kj4 =>
     have H := HA.out
     clear HA
     simp only [tree_Tree_forked.j0] at H
     by_cases c24 : x43_4 = true
     ·subst c24
      rw [if_pos rfl] at H
      obtain rfl := Option.some.inj H
      go_wp2
      go_ret
      exact ⟨qR, qB⟩
     ·replace c24 := Bool.eq_false_iff.mpr c24
      subst c24
      rw [if_neg (show ¬ (false = true) by decide)] at H
      replace H := Option.bind_eq_some_iff.mp H
      obtain ⟨⟨t345, t346, t347, t348, t349⟩, A250, H⟩ := H
      (try dsimp -simprocs only at H)
      have A25 := Aside0.mk A250
      clear A250
      by_cases c26 : t349 = true
      ·subst c26
       rw [if_pos rfl] at H
       replace H := Option.bind_eq_some_iff.mp H
       obtain ⟨t351, A270, H⟩ := H
       (try dsimp -simprocs only at H)
       have A27 := Aside0.mk A270
       clear A270
       replace H := iD H
       rcases H with ⟨c28b0, H⟩ | ⟨c28b0, H⟩
       ·by_cases c29 : ((rd_T43 l0 a1).f0) < (l0.length : Int)
        ·rw [if_pos c29] at H
         have c29b0 := decide_eq_true c29
         clear c29
         replace H := Option.bind_eq_some_iff.mp H
         obtain ⟨t355, A300, H⟩ := H
         (try dsimp -simprocs only at H)
         have A30 := Aside0.mk A300
         clear A300
         replace H := Option.bind_eq_some_iff.mp H
         obtain ⟨t358, A310, H⟩ := H
         (try dsimp -simprocs only at H)
         have A31 := Aside0.mk A310
         clear A310
         obtain rfl := Option.some.inj H
         obtain ⟨hcz32_0, hcz32_1, hcz32_2, hcz32_3, hfz32_0, hfz32_1, hfz32_2, hfz32_3⟩ := cells4 BK343.out
         try go_wp2_with (first | ((with_reducible refine gc 42 rfl ?_); refine gl (some 49) #[.slice (some ad342) l0.length c0, .int .i64 a1, .int .i64 ((rd_T43 l0 a1).f1)] Tryd.func42 ?_; (with_reducible refine (tree_Tree_Input.calls _ _ l0 a1 ((rd_T43 l0 a1).f1) t345 t346 t347 t348 true _ ?side1 ?side2 A25.out).mono ?_); (case side1 => exact qC); (case side2 => exact HC0.out); rintro e w33 ⟨rfl, hb⟩; refine ⟨_, rfl, ?_⟩; replace BK343 := kb gb343 hb; replace HB := bst hb; (try clear hb)) | ((with_reducible refine gd 6 rfl ?_); refine bx 6 #[.int .i64 0, .int .i64 0, .string (⟨#[]⟩ : ByteArray), .int .i64 0] 45 ?_; intro gb350 hg w34 hbox hb; have BK350 := Aside0.mk (hbox); have GW350 := geS hg; have GE350 := geS hg; have NB343_350 := neS gb343 hg; have NB350_343 := neT gb343 hg; replace BK343 := kb gb343 hb; replace HB := bst hb; clear hb hbox hg; have hnb35 := NB350_343.out; have hnc35 := NB343_350.out; obtain ⟨hcz36_0, hcz36_1, hcz36_2, hcz36_3, hfz36_0, hfz36_1, hfz36_2, hfz36_3⟩ := cells4 BK350.out))
         have n0_ : Aside0 (((((w34.setCell ⟨gb350, 0, none⟩ (.int .i64 t345)).setCell ⟨gb350, 1, none⟩ (.int .i64 t346)).setCell ⟨gb350, 2, none⟩ (.string t347)).setCell ⟨gb350, 3, none⟩ (.int .i64 t348)).heap[gb343]? = some (.cells #[.int .i64 ((rd_T43 l0 a1).f0), .int .i64 ((rd_T43 l0 a1).f1), .int .i64 ((rd_T43 l0 a1).f2), .slice A342_3 ((rd_T43 l0 a1).f3).length c342_3] 43 (0, 0))) := ⟨qK⟩
         have n1_ : Aside0 (((((w34.setCell ⟨gb350, 0, none⟩ (.int .i64 t345)).setCell ⟨gb350, 1, none⟩ (.int .i64 t346)).setCell ⟨gb350, 2, none⟩ (.string t347)).setCell ⟨gb350, 3, none⟩ (.int .i64 t348)).heap[gb350]? = some (.cells #[.int .i64 t345, .int .i64 t346, .string t347, .int .i64 t348] 45 (0, 0))) := ⟨qP⟩
         have n2_ : Aside0 (Below w.heap.size w ((((w34.setCell ⟨gb350, 0, none⟩ (.int .i64 t345)).setCell ⟨gb350, 1, none⟩ (.int .i64 t346)).setCell ⟨gb350, 2, none⟩ (.string t347)).setCell ⟨gb350, 3, none⟩ (.int .i64 t348))) := ⟨qB⟩
         (try clear BK343)
         (try clear BK350)
         (try clear HB)
         generalize ((((w34.setCell ⟨gb350, 0, none⟩ (.int .i64 t345)).setCell ⟨gb350, 1, none⟩ (.int .i64 t346)).setCell ⟨gb350, 2, none⟩ (.string t347)).setCell ⟨gb350, 3, none⟩ (.int .i64 t348)) = w37 at n0_ n1_ n2_ ⊢
         have BK343 := n0_
         have BK350 := n1_
         have HB := n2_
         clear n0_ n1_ n2_
         replace BK343 := Aside0.mk (blk_drew BK343.out)
         replace BK350 := Aside0.mk (blk_drew BK350.out)
         replace HB := Aside0.mk (below_drew1 HB.out)
         have p354 : 0 ≤ (((rd_T43 l0 a1).f0) : Int) := qD
         have q354 : ((rd_T43 l0 a1).f0) < (l0.length : Int) := qD
         obtain ⟨ad354, A354_3, c354_3, e354, hx354_0, hx354_1, hx354_2, hx354_3, hl354_3, hi354_3⟩ := at_T43 HR0.out ((rd_T43 l0 a1).f0) p354 q354
         have hw354_3 := hx354_3
         have hw354_2 := hx354_2
         have hw354_1 := hx354_1
         have hw354_0 := hx354_0
         obtain rfl : ad342 = ad354 := (by injection e354)
         replace hx354_0 := pw_cell_below HB.out hx354_0
         replace hx354_1 := pw_cell_below HB.out hx354_1
         replace hx354_2 := pw_cell_below HB.out hx354_2
         replace hx354_3 := pw_cell_below HB.out hx354_3
         have HR354_3 := Aside0.mk hi354_3
         have HC354_3 := Aside0.mk hl354_3
         clear hi354_3 hl354_3
         replace p354 := eq_true p354
         replace q354 := eq_true q354
         refine start_ (n := 17) (S := fun w' => w'.cell? ⟨gb343, 0, none⟩ = some (.int .i64 ((rd_T43 l0 a1).f0)) ∧ w'.cell? ⟨gb343, 1, none⟩ = some (.int .i64 ((rd_T43 l0 a1).f1)) ∧ w'.cell? ⟨gb343, 2, none⟩ = some (.int .i64 ((rd_T43 l0 a1).f2)) ∧ w'.cell? ⟨gb343, 3, none⟩ = some (.slice A342_3 ((rd_T43 l0 a1).f3).length c342_3) ∧ w'.cell? (ad342.add ((((rd_T43 l0 a1).f0)).toNat * 4)) = some (.int .i64 ((rd_T43 l0 ((rd_T43 l0 a1).f0)).f0)) ∧ w'.cell? ⟨(ad342.add ((((rd_T43 l0 a1).f0)).toNat * 4)).block, (ad342.add ((((rd_T43 l0 a1).f0)).toNat * 4)).off + 1, none⟩ = some (.int .i64 ((rd_T43 l0 ((rd_T43 l0 a1).f0)).f1)) ∧ w'.cell? ⟨(ad342.add ((((rd_T43 l0 a1).f0)).toNat * 4)).block, (ad342.add ((((rd_T43 l0 a1).f0)).toNat * 4)).off + 2, none⟩ = some (.int .i64 ((rd_T43 l0 ((rd_T43 l0 a1).f0)).f2)) ∧ w'.cell? ⟨(ad342.add ((((rd_T43 l0 a1).f0)).toNat * 4)).block, (ad342.add ((((rd_T43 l0 a1).f0)).toNat * 4)).off + 3, none⟩ = some (.slice A354_3 ((rd_T43 l0 ((rd_T43 l0 a1).f0)).f3).length c354_3)) (ds := []) _ (by kernel_rfl) rfl (fls 17) ⟨(blk_cell BK343.out 0).trans rfl, (blk_cell BK343.out 1).trans rfl, (blk_cell BK343.out 2).trans rfl, (blk_cell BK343.out 3).trans rfl, ((HB.out.cell (World.block_lt_of_cell? w _ hw354_0)).trans hw354_0), ((HB.out.cell (World.block_lt_of_cell? w _ hw354_1)).trans hw354_1), ((HB.out.cell (World.block_lt_of_cell? w _ hw354_2)).trans hw354_2), ((HB.out.cell (World.block_lt_of_cell? w _ hw354_3)).trans hw354_3)⟩ (fun hHeld => ?_); refine with_tabW tree_Tree_forked.tab5 tree_Tree_forked.bits5 (fun HT_ HW_ => ?_)
         generalize w37.drew = w38 at BK343 BK350 HB HR354_3 hx354_0 hx354_1 hx354_2 hx354_3 hHeld ⊢
         refine pu 0 52 ?_; refine pu 1 53 ?_
         refine pu 3 55 ?_; refine pu 6 58 ?_
         refine pu 7 59 ?_; refine pu 11 63 ?_
         refine tk 2 54 ?_; refine tk 4 56 ?_
         refine tk 8 60 ?_; refine pu 9 61 ?_
         refine tk 10 62 ?_; refine tk 12 64 ?_
         refine onx 5 57 (fun K hK => ?_)
         refine goes_ Tryd.func81 (by kernel_rfl) rfl #[.agg #[.int .i64 ((rd_T43 l0 a1).f0), .int .i64 ((rd_T43 l0 a1).f1), .int .i64 ((rd_T43 l0 a1).f2), .slice A342_3 ((rd_T43 l0 a1).f3).length c342_3], .int .i64 ((rd_T43 l0 a1).f1)] (by rfl) rfl rfl (by (try simp only [List.map_toArray, List.map_cons, List.map_nil]); first | done | rfl | (simp only [List.length_drop, List.length_take]; rfl)) ?_
         with_reducible refine (tree_Branch_ahead.calls kj4 ((rd_T43 l0 a1).f0) ((rd_T43 l0 a1).f1) ((rd_T43 l0 a1).f2) _ _ ((rd_T43 l0 a1).f3) ((rd_T43 l0 a1).f1) t351 _ ?side1 ?side2 A27.out).mono ?_
         (case side1 => exact qC)
         (case side2 => exact HC342_3.out)
         rintro e w39 ⟨v352, rfl, ho0, hb⟩
         refine ⟨_, rfl, ?_⟩
         have HO353 := Aside0.mk (Kd.R_lower (Kd.R_newB ho0 (g := gb350) (o := .cells #[.int .i64 t345, .int .i64 t346, .string t347, .int .i64 t348] 45 (0, 0)) qK) (below_size qB))
         replace BK343 := kb gb343 hb
         replace BK350 := kb gb350 hb
         replace HB := bst hb
         (try clear hb)
         (try clear hb2)
         (try clear hk)
         (try clear hi)
         (try clear ho0)
         refine hK.out _ _ ⟨(blk_cell BK343.out 0).trans rfl, (blk_cell BK343.out 1).trans rfl, (blk_cell BK343.out 2).trans rfl, (blk_cell BK343.out 3).trans rfl, ((HB.out.cell (World.block_lt_of_cell? w _ hw354_0)).trans hw354_0), ((HB.out.cell (World.block_lt_of_cell? w _ hw354_1)).trans hw354_1), ((HB.out.cell (World.block_lt_of_cell? w _ hw354_2)).trans hw354_2), ((HB.out.cell (World.block_lt_of_cell? w _ hw354_3)).trans hw354_3)⟩ (fun hHeld => ?_)
         clear hK K
         refine nm 57 ?_
         refine onx 13 65 (fun K hK => ?_)
         refine goes_ Tryd.func81 (by kernel_rfl) rfl #[.agg #[.int .i64 ((rd_T43 l0 ((rd_T43 l0 a1).f0)).f0), .int .i64 ((rd_T43 l0 ((rd_T43 l0 a1).f0)).f1), .int .i64 ((rd_T43 l0 ((rd_T43 l0 a1).f0)).f2), .slice A354_3 ((rd_T43 l0 ((rd_T43 l0 a1).f0)).f3).length c354_3], .int .i64 ((rd_T43 l0 a1).f1)] (by rfl) rfl rfl (by (try simp only [List.map_toArray, List.map_cons, List.map_nil]); first | done | rfl | (simp only [List.length_drop, List.length_take]; rfl)) ?_
         with_reducible refine (tree_Branch_ahead.calls kj4 ((rd_T43 l0 ((rd_T43 l0 a1).f0)).f0) ((rd_T43 l0 ((rd_T43 l0 a1).f0)).f1) ((rd_T43 l0 ((rd_T43 l0 a1).f0)).f2) _ _ ((rd_T43 l0 ((rd_T43 l0 a1).f0)).f3) ((rd_T43 l0 a1).f1) t355 _ ?side1 ?side2 A30.out).mono ?_
         (case side1 => exact qC)
         (case side2 => exact HC354_3.out)
         rintro e w40 ⟨v356, rfl, ho0, hb⟩
         refine ⟨_, rfl, ?_⟩
         have HO357 := Aside0.mk (Kd.R_lower (Kd.R_newB (Kd.R_new' ho0 (Kd.R_lt (by (with_reducible repeat (first | apply Kd.R_alloc | apply Kd.R_drewN | apply Kd.R_drew)); exact HO353.out))) (g := gb350) (o := .cells #[.int .i64 t345, .int .i64 t346, .string t347, .int .i64 t348] 45 (0, 0)) qK) (below_size qB))
         replace BK343 := kb gb343 hb
         replace BK350 := kb gb350 hb
         replace HO353 := Aside0.mk (Kd.R_elder' (by (with_reducible repeat (first | apply Kd.R_alloc | apply Kd.R_drewN | apply Kd.R_drew)); exact HO353.out) (Kd.R_base ho0) hb)
         replace HB := bst hb
         (try clear hb)
         (try clear hb2)
         (try clear hk)
         (try clear hi)
         (try clear ho0)
         obtain ⟨Ao41, co41, eo41⟩ := Kd.R_slice HO353.out
         (first | subst eo41 | (injection eo41 with f1_ f2_ f3_; have f4_ := f1_.symm; have f5_ := f3_.symm; clear f1_ f2_ f3_; subst f4_; subst f5_))
         obtain ⟨Ao42, co42, eo42⟩ := Kd.R_slice HO357.out
         (first | subst eo42 | (injection eo42 with f1_ f2_ f3_; have f4_ := f1_.symm; have f5_ := f3_.symm; clear f1_ f2_ f3_; subst f4_; subst f5_))
         refine hK.out _ _ ⟨(blk_cell BK343.out 0).trans rfl, (blk_cell BK343.out 1).trans rfl, (blk_cell BK343.out 2).trans rfl, (blk_cell BK343.out 3).trans rfl, ((HB.out.cell (World.block_lt_of_cell? w _ hw354_0)).trans hw354_0), ((HB.out.cell (World.block_lt_of_cell? w _ hw354_1)).trans hw354_1), ((HB.out.cell (World.block_lt_of_cell? w _ hw354_2)).trans hw354_2), ((HB.out.cell (World.block_lt_of_cell? w _ hw354_3)).trans hw354_3)⟩ (fun hHeld => ?_)
         clear hK K
         refine nm 65 ?_
         refine onx 14 66 (fun K hK => ?_)
         refine goes_ Tryd.func87 (by kernel_rfl) rfl #[.slice Ao41 t351.length co41, .slice Ao42 t355.length co42] (by rfl) rfl rfl (by (try simp only [List.map_toArray, List.map_cons, List.map_nil]); first | done | rfl | (simp only [List.length_drop, List.length_take]; rfl)) ?_
         with_reducible refine (tree_Input.calls kj4 _ _ t351 _ _ t355 t358 _ ?side1 ?side2 ?side3 ?side4 A31.out).mono ?_
         (case side1 => exact cr HO353)
         (case side2 => exact (Kd.R_reads' HO353.out).2.1)
         (case side3 => exact cr HO357)
         (case side4 => exact (Kd.R_reads' HO357.out).2.1)
         rintro e w' ⟨rfl, ⟨nd, rfl⟩⟩
         refine ⟨_, rfl, ?_⟩
         refine hK.out _ _ ⟨(blk_cell BK343.out 0).trans rfl, (blk_cell BK343.out 1).trans rfl, (blk_cell BK343.out 2).trans rfl, (blk_cell BK343.out 3).trans rfl, ((HB.out.cell (World.block_lt_of_cell? w _ hw354_0)).trans hw354_0), ((HB.out.cell (World.block_lt_of_cell? w _ hw354_1)).trans hw354_1), ((HB.out.cell (World.block_lt_of_cell? w _ hw354_2)).trans hw354_2), ((HB.out.cell (World.block_lt_of_cell? w _ hw354_3)).trans hw354_3)⟩ (fun hHeld => ?_)
         clear hK K
         refine nm 66 ?_
         refine pu 15 67 ?_; refine pu 16 4 ?_
         refine done_ (done_of HT_.out (by kernel_rfl)) ?_
         try go_wp2
         go_ret
         exact ⟨qR, qB⟩
        ·rw [if_neg c29] at H
         exact absurd H (by simp)
       ·exact absurd H (by simp)
      ·replace c26 := Bool.eq_false_iff.mpr c26
       subst c26
       rw [if_neg (show ¬ (false = true) by decide)] at H
       obtain rfl := Option.some.inj H
       obtain ⟨hcz43_0, hcz43_1, hcz43_2, hcz43_3, hfz43_0, hfz43_1, hfz43_2, hfz43_3⟩ := cells4 BK343.out
       try go_wp2_with (first | ((with_reducible refine gc 42 rfl ?_); refine gl (some 49) #[.slice (some ad342) l0.length c0, .int .i64 a1, .int .i64 ((rd_T43 l0 a1).f1)] Tryd.func42 ?_; (with_reducible refine (tree_Tree_Input.calls _ _ l0 a1 ((rd_T43 l0 a1).f1) t345 t346 t347 t348 false _ ?side1 ?side2 A25.out).mono ?_); (case side1 => exact qC); (case side2 => exact HC0.out); rintro e w44 ⟨rfl, hb⟩; refine ⟨_, rfl, ?_⟩; replace BK343 := kb gb343 hb; replace HB := bst hb; (try clear hb)) | ((with_reducible refine gd 6 rfl ?_); refine bx 6 #[.int .i64 0, .int .i64 0, .string (⟨#[]⟩ : ByteArray), .int .i64 0] 45 ?_; intro gb350 hg w45 hbox hb; have BK350 := Aside0.mk (hbox); have GW350 := geS hg; have GE350 := geS hg; have NB343_350 := neS gb343 hg; have NB350_343 := neT gb343 hg; replace BK343 := kb gb343 hb; replace HB := bst hb; clear hb hbox hg; have hnb46 := NB350_343.out; have hnc46 := NB343_350.out; obtain ⟨hcz47_0, hcz47_1, hcz47_2, hcz47_3, hfz47_0, hfz47_1, hfz47_2, hfz47_3⟩ := cells4 BK350.out))
       have n0_ : Aside0 (((((w45.setCell ⟨gb350, 0, none⟩ (.int .i64 t345)).setCell ⟨gb350, 1, none⟩ (.int .i64 t346)).setCell ⟨gb350, 2, none⟩ (.string t347)).setCell ⟨gb350, 3, none⟩ (.int .i64 t348)).heap[gb343]? = some (.cells #[.int .i64 ((rd_T43 l0 a1).f0), .int .i64 ((rd_T43 l0 a1).f1), .int .i64 ((rd_T43 l0 a1).f2), .slice A342_3 ((rd_T43 l0 a1).f3).length c342_3] 43 (0, 0))) := ⟨qK⟩
       have n1_ : Aside0 (((((w45.setCell ⟨gb350, 0, none⟩ (.int .i64 t345)).setCell ⟨gb350, 1, none⟩ (.int .i64 t346)).setCell ⟨gb350, 2, none⟩ (.string t347)).setCell ⟨gb350, 3, none⟩ (.int .i64 t348)).heap[gb350]? = some (.cells #[.int .i64 t345, .int .i64 t346, .string t347, .int .i64 t348] 45 (0, 0))) := ⟨qP⟩
       have n2_ : Aside0 (Below w.heap.size w ((((w45.setCell ⟨gb350, 0, none⟩ (.int .i64 t345)).setCell ⟨gb350, 1, none⟩ (.int .i64 t346)).setCell ⟨gb350, 2, none⟩ (.string t347)).setCell ⟨gb350, 3, none⟩ (.int .i64 t348))) := ⟨qB⟩
       (try clear BK343)
       (try clear BK350)
       (try clear HB)
       generalize ((((w45.setCell ⟨gb350, 0, none⟩ (.int .i64 t345)).setCell ⟨gb350, 1, none⟩ (.int .i64 t346)).setCell ⟨gb350, 2, none⟩ (.string t347)).setCell ⟨gb350, 3, none⟩ (.int .i64 t348)) = w48 at n0_ n1_ n2_ ⊢
       have BK343 := n0_
       have BK350 := n1_
       have HB := n2_
       clear n0_ n1_ n2_
       replace BK343 := Aside0.mk (blk_drew BK343.out)
       replace BK350 := Aside0.mk (blk_drew BK350.out)
       replace HB := Aside0.mk (below_drew1 HB.out)
       refine start_ (n := 17) (S := fun w' => True) (ds := []) _ (by kernel_rfl) rfl (fls 17) trivial (fun hHeld => ?_); refine with_tabW tree_Tree_forked.tab5 tree_Tree_forked.bits5 (fun HT_ HW_ => ?_)
       generalize w48.drew = w49 at BK343 BK350 HB hHeld ⊢
       refine pu 0 52 ?_; refine pu 1 53 ?_
       refine po 2 54 ?_; refine po 3 55 ?_
       refine po 4 56 ?_; refine po 5 57 ?_
       refine po 6 58 ?_; refine po 7 59 ?_
       refine po 8 60 ?_; refine po 9 61 ?_
       refine po 10 62 ?_; refine po 11 63 ?_
       refine po 12 64 ?_; refine po 13 65 ?_
       refine po 14 66 ?_; refine pu 15 67 ?_; refine pu 16 4 ?_
       refine done_ (done_of HT_.out (by kernel_rfl)) ?_
       try go_wp2
       go_ret
       exact ⟨qR, qB⟩
  ·exact absurd H (by simp)
 ·rw [if_neg c3] at H
  exact absurd H (by simp)
end Go.Proofs.YtbngfhlciebeeaaDoor.L
