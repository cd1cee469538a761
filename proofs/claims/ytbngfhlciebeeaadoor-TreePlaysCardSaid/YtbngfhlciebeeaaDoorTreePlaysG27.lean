/- Printed and hand-written steps towards the row (TreePlays), those that it reaches. -/
import Derived.Test.YtbngfhlciebeeaaDoorTreePlaysG4
import Derived.Test.YtbngfhlciebeeaaDoorTreePlaysG5
import Derived.Test.YtbngfhlciebeeaaDoorTreePlaysG26
section
namespace Go.Proofs.YtbngfhlciebeeaaDoor.L
open Go.RowKit Go.Proofs.YtbngfhlciebeeaaDoorW.PrintWords Go.Proofs.YtbngfhlciebeeaaDoorW.PrintLast Go.Proofs.YtbngfhlciebeeaaDoorW.PrintMore
attribute [local go_sem] max2_int min2_int max_two min_two max_three min_three max_four min_four   -- for this text's walks alone
set_option linter.unusedVariables false
set_option linter.unusedSimpArgs false
def tree_Branch_same.l0 : Nat → List (S43) → List (S43) → Int → Int → Option (Bool)
 | 0, _, _, _, _ => none
 | k + 1, x1, x15, x16, x17 => if x17 < x16 then (if 0 ≤ x17 then (if x17 < (x15.length : Int) then (if x17 < (x1.length : Int) then ((tree_Tree_Same_1.f k ((rd_T43 x15 x17).f0) ((rd_T43 x15 x17).f1) ((rd_T43 x15 x17).f2) ((rd_T43 x15 x17).f3) ((rd_T43 x1 x17).f0) ((rd_T43 x1 x17).f1) ((rd_T43 x1 x17).f2) ((rd_T43 x1 x17).f3)).bind fun t608 => (if t608 = true then (tree_Branch_same.l0 k x1 x15 x16 (wrap64 (x17 + 1))) else (some false))) else (none)) else (none)) else (none)) else (some true)
def tree_Branch_same.f (k : Nat) (l0 : List (S43)) (l1 : List (S43)) : Option (Bool) := if (l0.length : Int) = (l1.length : Int) then (tree_Branch_same.l0 k l1 l0 (l0.length : Int) 0) else (some false)
set_option maxHeartbeats 8000000 in
set_option maxRecDepth 100000 in
theorem tree_Branch_same.calls (k : Nat) (A0 : Option Addr) (c0 : Nat) (l0 : List (S43)) (A1 : Option Addr) (c1 : Nat) (l1 : List (S43)) (r : Bool) (w : World) (hr0 : Kd.C k43 w A0 l0.length l0) (hc0 : l0.length ≤ c0) (hr1 : Kd.C k43 w A1 l1.length l1) (hc1 : l1.length ≤ c1) (h : tree_Branch_same.f k l0 l1 = some r) :
  Calls Tryd.prog 85 #[.slice A0 l0.length c0, .slice A1 l1.length c1, .func (.func 86) #[] #[]] w fun e w' => e = .returned (.bool r) ∧ Below w.heap.size w w' := by
 have hu43 := Tryd.underlying43
 have HR0 := Aside0.mk hr0
 have HC0 := Aside0.mk hc0
 clear hr0 hc0
 have HR1 := Aside0.mk hr1
 have HC1 := Aside0.mk hc1
 clear hr1 hc1
 have HB := Aside0.mk (Below.refl w.heap.size w)
 have H : (if (l0.length : Int) = (l1.length : Int) then (tree_Branch_same.l0 k l1 l0 (l0.length : Int) 0) else (some false)) = some r := h
 clear h
 by_cases c3 : (l0.length : Int) = (l1.length : Int)
 ·rw [if_pos c3] at H
  have c3b0 := beq_iff_eq.mpr c3
  have c3b1 := bne_eq_false_iff_eq.mpr c3
  have c3b2 : (l0.length == l1.length) = true := by first | simpa using c3 | (simp at c3 ⊢; omega)
  clear c3
  have H' := Aside0.mk H
  clear H
  go_enter Tryd.func85, Tryd.ntmps85
  go_wp2
  go_loopg [17] k (fun kq v17 w' => ∃ (x17_1 : Int), v17 = .int .i64 x17_1 ∧ Aside0 (tree_Branch_same.l0 kq l1 l0 (l0.length : Int) x17_1 = some r) ∧ Aside0 (kq ≤ k) ∧ Aside0 (Below w.heap.size w w'))
  case atStart => exact ⟨(0), qE, H', ⟨Nat.le_refl _⟩, ⟨qB⟩⟩
  case round =>
   clear H'
   try clear p2
   obtain ⟨x17_1, rfl, HA, HK1, HB⟩ := hrel
   cases gk with
   | zero => exact absurd HA.out (by simp [tree_Branch_same.l0])
   | succ k1 =>
    have H := HA.out
    clear HA
    simp only [tree_Branch_same.l0] at H
    replace H := iD H
    rcases H with ⟨c4b0, H⟩ | ⟨c4b0, H⟩
    ·by_cases c5 : 0 ≤ x17_1
     ·rw [if_pos c5] at H; have c5b0 := decide_eq_true c5; clear c5; replace H := iD H
      rcases H with ⟨c6b0, H⟩ | ⟨c6b0, H⟩
      ·by_cases c7 : x17_1 < (l1.length : Int)
       ·rw [if_pos c7] at H; have c7b0 := decide_eq_true c7; clear c7; replace H := Option.bind_eq_some_iff.mp H; obtain ⟨t608, A80, H⟩ := H; (try dsimp -simprocs only at H); have A8 := Aside0.mk A80; clear A80
        by_cases c9 : t608 = true
        ·subst c9; rw [if_pos rfl] at H; have H' := Aside0.mk H; clear H; have p604 : 0 ≤ (x17_1 : Int) := qD; have q604 : x17_1 < (l0.length : Int) := qD; obtain ⟨ad604, A604_3, c604_3, e604, hx604_0, hx604_1, hx604_2, hx604_3, hl604_3, hi604_3⟩ := at_T43 HR0.out x17_1 p604 q604; cases e604; replace hx604_0 := pw_cell_below HB.out hx604_0; replace hx604_1 := pw_cell_below HB.out hx604_1; replace hx604_2 := pw_cell_below HB.out hx604_2; replace hx604_3 := pw_cell_below HB.out hx604_3; have HR604_3 := Aside0.mk hi604_3; have HC604_3 := Aside0.mk hl604_3; clear hi604_3 hl604_3; replace p604 := eq_true p604; replace q604 := eq_true q604
         go_wp2_with (first | ((with_reducible refine gd 8 rfl ?_); refine bxx 8 #[.int .i64 0, .int .i64 0, .int .i64 0, .slice none 0 0] 43 ?_; intro gb605 w10 BK605 GW605 HB; obtain ⟨_, _, _, _, _, _, _, _⟩ := cells4 BK605.out; have p606 : 0 ≤ (x17_1 : Int) := qD; have q606 : x17_1 < (l1.length : Int) := qD; obtain ⟨ad606, A606_3, c606_3, e606, hx606_0, hx606_1, hx606_2, hx606_3, hl606_3, hi606_3⟩ := at_T43 HR1.out x17_1 p606 q606; cases e606; have hn606_0 : ad606.block ≠ gb605 := cne hx606_0 GW605; have hn606_1 : ad606.block ≠ gb605 := cne hx606_0 GW605; have hn606_2 : ad606.block ≠ gb605 := cne hx606_0 GW605; have hn606_3 : ad606.block ≠ gb605 := cne hx606_0 GW605; replace hx606_0 := pw_cell_below HB.out hx606_0; replace hx606_1 := pw_cell_below HB.out hx606_1; replace hx606_2 := pw_cell_below HB.out hx606_2; replace hx606_3 := pw_cell_below HB.out hx606_3; have HR606_3 := Aside0.mk hi606_3; have HC606_3 := Aside0.mk hl606_3; clear hi606_3 hl606_3; replace hx606_0 := cfa ⟨gb605, 0, none⟩ (.int .i64 ((rd_T43 l0 x17_1).f0)) hx606_0; replace hx606_1 := cfa ⟨gb605, 0, none⟩ (.int .i64 ((rd_T43 l0 x17_1).f0)) hx606_1; replace hx606_2 := cfa ⟨gb605, 0, none⟩ (.int .i64 ((rd_T43 l0 x17_1).f0)) hx606_2; replace hx606_3 := cfa ⟨gb605, 0, none⟩ (.int .i64 ((rd_T43 l0 x17_1).f0)) hx606_3; replace hx606_0 := cfa ⟨gb605, 1, none⟩ (.int .i64 ((rd_T43 l0 x17_1).f1)) hx606_0; replace hx606_1 := cfa ⟨gb605, 1, none⟩ (.int .i64 ((rd_T43 l0 x17_1).f1)) hx606_1; replace hx606_2 := cfa ⟨gb605, 1, none⟩ (.int .i64 ((rd_T43 l0 x17_1).f1)) hx606_2; replace hx606_3 := cfa ⟨gb605, 1, none⟩ (.int .i64 ((rd_T43 l0 x17_1).f1)) hx606_3; replace hx606_0 := cfa ⟨gb605, 2, none⟩ (.int .i64 ((rd_T43 l0 x17_1).f2)) hx606_0; replace hx606_1 := cfa ⟨gb605, 2, none⟩ (.int .i64 ((rd_T43 l0 x17_1).f2)) hx606_1; replace hx606_2 := cfa ⟨gb605, 2, none⟩ (.int .i64 ((rd_T43 l0 x17_1).f2)) hx606_2; replace hx606_3 := cfa ⟨gb605, 2, none⟩ (.int .i64 ((rd_T43 l0 x17_1).f2)) hx606_3; replace hx606_0 := cfa ⟨gb605, 3, none⟩ (.slice A604_3 ((rd_T43 l0 x17_1).f3).length c604_3) hx606_0; replace hx606_1 := cfa ⟨gb605, 3, none⟩ (.slice A604_3 ((rd_T43 l0 x17_1).f3).length c604_3) hx606_1; replace hx606_2 := cfa ⟨gb605, 3, none⟩ (.slice A604_3 ((rd_T43 l0 x17_1).f3).length c604_3) hx606_2; replace hx606_3 := cfa ⟨gb605, 3, none⟩ (.slice A604_3 ((rd_T43 l0 x17_1).f3).length c604_3) hx606_3; clear hn606_0; clear hn606_1; clear hn606_2; clear hn606_3; replace p606 := eq_true p606; replace q606 := eq_true q606) | ((with_reducible refine gd 9 rfl ?_); refine bx 9 #[.int .i64 0, .int .i64 0, .int .i64 0, .slice none 0 0] 43 ?_; intro gb607 hg w12 hbox hb; have BK607 := Aside0.mk (hbox); have GW607 := geS hg; have GE607 := geS hg; have NB605_607 := neS gb605 hg; have NB607_605 := neT gb605 hg; replace BK605 := kp gb605 (.cells #[.int .i64 ((rd_T43 l0 x17_1).f0), .int .i64 ((rd_T43 l0 x17_1).f1), .int .i64 ((rd_T43 l0 x17_1).f2), .slice A604_3 ((rd_T43 l0 x17_1).f3).length c604_3] 43 (0, 0)) hb; replace HB := bst hb; clear hb hbox hg; have := NB607_605.out; have := NB605_607.out; obtain ⟨_, _, _, _, _, _, _, _⟩ := cells4 BK607.out; obtain ⟨_, _, _, _, _, _, _, _⟩ := cells4 BK605.out) | (go_at_call 86; (with_reducible refine (tree_Tree_Same_1.calls k1 ((rd_T43 l0 x17_1).f0) ((rd_T43 l0 x17_1).f1) ((rd_T43 l0 x17_1).f2) _ _ ((rd_T43 l0 x17_1).f3) ((rd_T43 l1 x17_1).f0) ((rd_T43 l1 x17_1).f1) ((rd_T43 l1 x17_1).f2) _ _ ((rd_T43 l1 x17_1).f3) true _ ?side1 ?side2 ?side3 ?side4 A8.out).mono ?_); (case side1 => exact Kd.C_below HR604_3.out qB); (case side2 => exact HC604_3.out); (case side3 => exact Kd.C_below HR606_3.out qB); (case side4 => exact HC606_3.out); rintro e w16 ⟨rfl, hb⟩; replace BK605 := kb gb605 hb; replace BK607 := kp gb607 (.cells #[.int .i64 ((rd_T43 l1 x17_1).f0), .int .i64 ((rd_T43 l1 x17_1).f1), .int .i64 ((rd_T43 l1 x17_1).f2), .slice A606_3 ((rd_T43 l1 x17_1).f3).length c606_3] 43 (0, 0)) hb; replace HB := bst hb; (try clear hb)))
         go_roundg k1
         case measure => have := HK1.out; omega
         case rel => exact ⟨(wrap64 (x17_1 + 1)), qE, H', ⟨by have := HK1.out; omega⟩, ⟨qB⟩⟩
        replace c9 := Bool.eq_false_iff.mpr c9; subst c9; rw [if_neg (show ¬ (false = true) by decide)] at H; obtain rfl := Option.some.inj H; have p604 : 0 ≤ (x17_1 : Int) := qD; have q604 : x17_1 < (l0.length : Int) := qD; obtain ⟨ad604, A604_3, c604_3, e604, hx604_0, hx604_1, hx604_2, hx604_3, hl604_3, hi604_3⟩ := at_T43 HR0.out x17_1 p604 q604; cases e604; replace hx604_0 := pw_cell_below HB.out hx604_0; replace hx604_1 := pw_cell_below HB.out hx604_1; replace hx604_2 := pw_cell_below HB.out hx604_2; replace hx604_3 := pw_cell_below HB.out hx604_3; have HR604_3 := Aside0.mk hi604_3; have HC604_3 := Aside0.mk hl604_3; clear hi604_3 hl604_3; replace p604 := eq_true p604; replace q604 := eq_true q604
        go_wp2_with (first | ((with_reducible refine gd 8 rfl ?_); refine bxx 8 #[.int .i64 0, .int .i64 0, .int .i64 0, .slice none 0 0] 43 ?_; intro gb605 w17 BK605 GW605 HB; obtain ⟨_, _, _, _, _, _, _, _⟩ := cells4 BK605.out; have p606 : 0 ≤ (x17_1 : Int) := qD; have q606 : x17_1 < (l1.length : Int) := qD; obtain ⟨ad606, A606_3, c606_3, e606, hx606_0, hx606_1, hx606_2, hx606_3, hl606_3, hi606_3⟩ := at_T43 HR1.out x17_1 p606 q606; cases e606; have hn606_0 : ad606.block ≠ gb605 := cne hx606_0 GW605; have hn606_1 : ad606.block ≠ gb605 := cne hx606_0 GW605; have hn606_2 : ad606.block ≠ gb605 := cne hx606_0 GW605; have hn606_3 : ad606.block ≠ gb605 := cne hx606_0 GW605; replace hx606_0 := pw_cell_below HB.out hx606_0; replace hx606_1 := pw_cell_below HB.out hx606_1; replace hx606_2 := pw_cell_below HB.out hx606_2; replace hx606_3 := pw_cell_below HB.out hx606_3; have HR606_3 := Aside0.mk hi606_3; have HC606_3 := Aside0.mk hl606_3; clear hi606_3 hl606_3; replace hx606_0 := cfa ⟨gb605, 0, none⟩ (.int .i64 ((rd_T43 l0 x17_1).f0)) hx606_0; replace hx606_1 := cfa ⟨gb605, 0, none⟩ (.int .i64 ((rd_T43 l0 x17_1).f0)) hx606_1; replace hx606_2 := cfa ⟨gb605, 0, none⟩ (.int .i64 ((rd_T43 l0 x17_1).f0)) hx606_2; replace hx606_3 := cfa ⟨gb605, 0, none⟩ (.int .i64 ((rd_T43 l0 x17_1).f0)) hx606_3; replace hx606_0 := cfa ⟨gb605, 1, none⟩ (.int .i64 ((rd_T43 l0 x17_1).f1)) hx606_0; replace hx606_1 := cfa ⟨gb605, 1, none⟩ (.int .i64 ((rd_T43 l0 x17_1).f1)) hx606_1; replace hx606_2 := cfa ⟨gb605, 1, none⟩ (.int .i64 ((rd_T43 l0 x17_1).f1)) hx606_2; replace hx606_3 := cfa ⟨gb605, 1, none⟩ (.int .i64 ((rd_T43 l0 x17_1).f1)) hx606_3; replace hx606_0 := cfa ⟨gb605, 2, none⟩ (.int .i64 ((rd_T43 l0 x17_1).f2)) hx606_0; replace hx606_1 := cfa ⟨gb605, 2, none⟩ (.int .i64 ((rd_T43 l0 x17_1).f2)) hx606_1; replace hx606_2 := cfa ⟨gb605, 2, none⟩ (.int .i64 ((rd_T43 l0 x17_1).f2)) hx606_2; replace hx606_3 := cfa ⟨gb605, 2, none⟩ (.int .i64 ((rd_T43 l0 x17_1).f2)) hx606_3; replace hx606_0 := cfa ⟨gb605, 3, none⟩ (.slice A604_3 ((rd_T43 l0 x17_1).f3).length c604_3) hx606_0; replace hx606_1 := cfa ⟨gb605, 3, none⟩ (.slice A604_3 ((rd_T43 l0 x17_1).f3).length c604_3) hx606_1; replace hx606_2 := cfa ⟨gb605, 3, none⟩ (.slice A604_3 ((rd_T43 l0 x17_1).f3).length c604_3) hx606_2; replace hx606_3 := cfa ⟨gb605, 3, none⟩ (.slice A604_3 ((rd_T43 l0 x17_1).f3).length c604_3) hx606_3; clear hn606_0; clear hn606_1; clear hn606_2; clear hn606_3; replace p606 := eq_true p606; replace q606 := eq_true q606) | ((with_reducible refine gd 9 rfl ?_); refine bx 9 #[.int .i64 0, .int .i64 0, .int .i64 0, .slice none 0 0] 43 ?_; intro gb607 hg w19 hbox hb; have BK607 := Aside0.mk (hbox); have GW607 := geS hg; have GE607 := geS hg; have NB605_607 := neS gb605 hg; have NB607_605 := neT gb605 hg; replace BK605 := kp gb605 (.cells #[.int .i64 ((rd_T43 l0 x17_1).f0), .int .i64 ((rd_T43 l0 x17_1).f1), .int .i64 ((rd_T43 l0 x17_1).f2), .slice A604_3 ((rd_T43 l0 x17_1).f3).length c604_3] 43 (0, 0)) hb; replace HB := bst hb; clear hb hbox hg; have := NB607_605.out; have := NB605_607.out; obtain ⟨_, _, _, _, _, _, _, _⟩ := cells4 BK607.out; obtain ⟨_, _, _, _, _, _, _, _⟩ := cells4 BK605.out) | (go_at_call 86; (with_reducible refine (tree_Tree_Same_1.calls k1 ((rd_T43 l0 x17_1).f0) ((rd_T43 l0 x17_1).f1) ((rd_T43 l0 x17_1).f2) _ _ ((rd_T43 l0 x17_1).f3) ((rd_T43 l1 x17_1).f0) ((rd_T43 l1 x17_1).f1) ((rd_T43 l1 x17_1).f2) _ _ ((rd_T43 l1 x17_1).f3) false _ ?side1 ?side2 ?side3 ?side4 A8.out).mono ?_); (case side1 => exact Kd.C_below HR604_3.out qB); (case side2 => exact HC604_3.out); (case side3 => exact Kd.C_below HR606_3.out qB); (case side4 => exact HC606_3.out); rintro e w23 ⟨rfl, hb⟩; replace BK605 := kb gb605 hb; replace BK607 := kp gb607 (.cells #[.int .i64 ((rd_T43 l1 x17_1).f0), .int .i64 ((rd_T43 l1 x17_1).f1), .int .i64 ((rd_T43 l1 x17_1).f2), .slice A606_3 ((rd_T43 l1 x17_1).f3).length c606_3] 43 (0, 0)) hb; replace HB := bst hb; (try clear hb)))
        go_ret; exact ⟨qR, qB⟩
       rw [if_neg c7] at H; exact absurd H (by simp)
      exact absurd H (by simp)
     rw [if_neg c5] at H; exact absurd H (by simp)
    obtain rfl := Option.some.inj H
    go_wp2
    go_ret
    exact ⟨qR, qB⟩
 rw [if_neg c3] at H
 have c3b0 := beq_eq_false_iff_ne.mpr c3
 have c3b1 := bne_iff_ne.mpr c3
 have c3b2 : (l0.length == l1.length) = false := by first | simpa using c3 | (simp at c3 ⊢; omega)
 obtain rfl := Option.some.inj H
 go_enter Tryd.func85, Tryd.ntmps85
 go_wp2
 go_ret
 exact ⟨qR, qB⟩
def tree_Tree_Same.f (k : Nat) (l0 : List (S43)) (l1 : List (S43)) : Option (Bool) := (tree_Branch_same.f k l0 l1).bind fun t609 => (some t609)
set_option maxHeartbeats 8000000 in
set_option maxRecDepth 100000 in
theorem tree_Tree_Same.calls (k : Nat) (A0 : Option Addr) (c0 : Nat) (l0 : List (S43)) (A1 : Option Addr) (c1 : Nat) (l1 : List (S43)) (r : Bool) (w : World) (hr0 : Kd.C k43 w A0 l0.length l0) (hc0 : l0.length ≤ c0) (hr1 : Kd.C k43 w A1 l1.length l1) (hc1 : l1.length ≤ c1) (h : tree_Tree_Same.f k l0 l1 = some r) :
  Calls Tryd.prog 49 #[.slice A0 l0.length c0, .slice A1 l1.length c1] w fun e w' => e = .returned (.bool r) ∧ Below w.heap.size w w' := by
 have HR0 := Aside0.mk hr0
 have HC0 := Aside0.mk hc0
 clear hr0 hc0
 have HR1 := Aside0.mk hr1
 have HC1 := Aside0.mk hc1
 clear hr1 hc1
 have HB := Aside0.mk (Below.refl w.heap.size w)
 have H : ((tree_Branch_same.f k l0 l1).bind fun t609 => (some t609)) = some r := h
 clear h
 replace H := Option.bind_eq_some_iff.mp H
 obtain ⟨t609, A30, H⟩ := H
 (try dsimp -simprocs only at H)
 have A3 := Aside0.mk A30
 clear A30
 obtain rfl := Option.some.inj H
 go_enter Tryd.func49, Tryd.ntmps49
 go_wp2_with (first | ((with_reducible refine gc 85 rfl ?_); refine gl (some 7) #[.slice A0 l0.length c0, .slice A1 l1.length c1, .func (.func 86) #[] #[]] Tryd.func85 ?_; (with_reducible refine (tree_Branch_same.calls k _ _ l0 _ _ l1 t609 _ ?side1 ?side2 ?side3 ?side4 A3.out).mono ?_); (case side1 => repeat (first | exact HR0.out | (with_reducible refine Kd.C_alloc ?_ _) | (with_reducible refine Kd.C_drewN ?_ _) | (with_reducible refine Kd.C_drew ?_))); (case side2 => exact HC0.out); (case side3 => repeat (first | exact HR1.out | (with_reducible refine Kd.C_alloc ?_ _) | (with_reducible refine Kd.C_drewN ?_ _) | (with_reducible refine Kd.C_drew ?_))); (case side4 => exact HC1.out); rintro e w4 ⟨rfl, hb⟩; refine ⟨_, rfl, ?_⟩; replace HB := bst hb; (try clear hb)))
 go_ret
 exact ⟨qR, qB⟩
end Go.Proofs.YtbngfhlciebeeaaDoor.L
end
