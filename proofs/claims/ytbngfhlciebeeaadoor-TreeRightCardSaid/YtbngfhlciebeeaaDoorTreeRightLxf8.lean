/- Printed and hand-written steps towards the row (TreeRight), those that it reaches. -/
import Derived.Test.YtbngfhlciebeeaaDoorTreeRightLx0
import Derived.Test.YtbngfhlciebeeaaDoorTreeRightG7
import Derived.Test.YtbngfhlciebeeaaDoorTreeRightG24
import Derived.Test.YtbngfhlciebeeaaDoorTreeRightLxf35
import Derived.Test.YtbngfhlciebeeaaDoorTreeRightLxf32
import Derived.Test.YtbngfhlciebeeaaDoorTreeRightLxf36
import Derived.Test.YtbngfhlciebeeaaDoorTreeRightG38
namespace Go.Proofs.YtbngfhlciebeeaaDoor.L
open Go.RowKit Go.Proofs.YtbngfhlciebeeaaDoorW.PrintWords Go.Proofs.YtbngfhlciebeeaaDoorW.PrintLast Go.Proofs.YtbngfhlciebeeaaDoorW.PrintMore
attribute [local go_sem] max2_int min2_int max_two min_two max_three min_three max_four min_four   -- for this text's walks alone
set_option linter.unusedVariables false
set_option linter.unusedSimpArgs false
mutual
def whirligiglaw22_TreeRight.l0 : Nat → List (S43) → List (S43) → Int → Int → Option (Bool)
 | 0, _, _, _, _ => none
 | k + 1, x0, x12, x13, x14 => if x14 < x13 then (if 0 ≤ x14 then (if x14 < (x12.length : Int) then (if (((rd_T43 x12 x14).f3).length : Int) > 600 then (some true) else (whirligiglaw22_TreeRight.l1 k x0 x12 x13 x14 ((rd_T43 x12 x14).f3) (((rd_T43 x12 x14).f3).length : Int) 0)) else (none)) else (none)) else ((tree_Tree_Right.f k x0).bind fun t485 => ((whirligiglaw22_refs.f k x0).bind fun t486 => ((whirligigref22_Right.f k t486).bind fun t489 => (some (t485 == t489)))))
def whirligiglaw22_TreeRight.l1 : Nat → List (S43) → List (S43) → Int → Int → List (S45) → Int → Int → Option (Bool)
 | 0, _, _, _, _, _, _, _ => none
 | k + 1, x0, x12, x13, x14, x23, x24, x25 => if x25 < x24 then (if 0 ≤ x25 then (if x25 < (x23.length : Int) then (if (((rd_T45 x23 x25).f2).size : Int) > 200 then (some (decide ((((rd_T45 x23 x25).f2).size : Int) > 200))) else ((tree_Input_Right.f k ((rd_T45 x23 x25).f0) ((rd_T45 x23 x25).f1) ((rd_T45 x23 x25).f2) ((rd_T45 x23 x25).f3)).bind fun t494 => ((whirligigref22_RightInput.f k ((rd_T45 x23 x25).f0) ((rd_T45 x23 x25).f1) ((rd_T45 x23 x25).f2) ((rd_T45 x23 x25).f3)).bind fun t495 => (if (t494 != t495) = true then (some (decide ((((rd_T45 x23 x25).f2).size : Int) > 200))) else (whirligiglaw22_TreeRight.l1 k x0 x12 x13 x14 x23 x24 (wrap64 (x25 + 1))))))) else (none)) else (none)) else (whirligiglaw22_TreeRight.l0 k x0 x12 x13 (wrap64 (x14 + 1)))
end
def whirligiglaw22_TreeRight.f (k : Nat) (l0 : List (S43)) : Option (Bool) := (whirligiglaw22_anchor.f k).bind fun t484 => (if t484 = true then (if (l0.length : Int) > 20 then (some true) else (whirligiglaw22_TreeRight.l0 k l0 l0 (l0.length : Int) 0)) else (some false))
theorem whirligiglaw22_TreeRight.mono_l : ∀ k, (∀ y0 y1 y2 y3, LeO (whirligiglaw22_TreeRight.l0 k y0 y1 y2 y3) (whirligiglaw22_TreeRight.l0 (k + 1) y0 y1 y2 y3)) ∧ (∀ y0 y1 y2 y3 y4 y5 y6, LeO (whirligiglaw22_TreeRight.l1 k y0 y1 y2 y3 y4 y5 y6) (whirligiglaw22_TreeRight.l1 (k + 1) y0 y1 y2 y3 y4 y5 y6))
 | 0 => ⟨fun _ _ _ _ r h => by simp [whirligiglaw22_TreeRight.l0] at h, fun _ _ _ _ _ _ _ r h => by simp [whirligiglaw22_TreeRight.l1] at h⟩
 | k + 1 => by
  obtain ⟨ih0, ih1⟩ := whirligiglaw22_TreeRight.mono_l k
  refine ⟨?_, ?_⟩
  ·intro y0 y1 y2 y3
   unfold whirligiglaw22_TreeRight.l0
   repeat' first
   | (with_reducible exact ih0 _ _ _ _)
   | (with_reducible exact ih1 _ _ _ _ _ _ _)
   | (with_reducible exact tree_Input_Right.mono _ _ _ _ _)
   | (with_reducible exact tree_Tree_Right.mono _ _)
   | (with_reducible exact whirligiglaw22_anchor.mono _)
   | (with_reducible exact whirligiglaw22_refs.mono _ _)
   | (with_reducible exact whirligigref22_Right.mono _ _)
   | (with_reducible exact whirligigref22_RightInput.mono _ _ _ _ _)
   | (with_reducible exact LeO.refl _)
   | (with_reducible exact LeO.none _)
   | (with_reducible refine LeO.ite ?_ ?_)
   | (with_reducible refine LeO.bind ?_ (fun _ => ?_))
   | exact ih0 _ _ _ _
   | exact ih1 _ _ _ _ _ _ _
   | exact tree_Input_Right.mono _ _ _ _ _
   | exact tree_Tree_Right.mono _ _
   | exact whirligiglaw22_anchor.mono _
   | exact whirligiglaw22_refs.mono _ _
   | exact whirligigref22_Right.mono _ _
   | exact whirligigref22_RightInput.mono _ _ _ _ _
   | exact LeO.none _
   | refine LeO.ite ?_ ?_
   | refine LeO.bind ?_ (fun _ => ?_)
  ·intro y0 y1 y2 y3 y4 y5 y6
   unfold whirligiglaw22_TreeRight.l1
   repeat' first
   | (with_reducible exact ih0 _ _ _ _)
   | (with_reducible exact ih1 _ _ _ _ _ _ _)
   | (with_reducible exact tree_Input_Right.mono _ _ _ _ _)
   | (with_reducible exact tree_Tree_Right.mono _ _)
   | (with_reducible exact whirligiglaw22_anchor.mono _)
   | (with_reducible exact whirligiglaw22_refs.mono _ _)
   | (with_reducible exact whirligigref22_Right.mono _ _)
   | (with_reducible exact whirligigref22_RightInput.mono _ _ _ _ _)
   | (with_reducible exact LeO.refl _)
   | (with_reducible exact LeO.none _)
   | (with_reducible refine LeO.ite ?_ ?_)
   | (with_reducible refine LeO.bind ?_ (fun _ => ?_))
   | exact ih0 _ _ _ _
   | exact ih1 _ _ _ _ _ _ _
   | exact tree_Input_Right.mono _ _ _ _ _
   | exact tree_Tree_Right.mono _ _
   | exact whirligiglaw22_anchor.mono _
   | exact whirligiglaw22_refs.mono _ _
   | exact whirligigref22_Right.mono _ _
   | exact whirligigref22_RightInput.mono _ _ _ _ _
   | exact LeO.none _
   | refine LeO.ite ?_ ?_
   | refine LeO.bind ?_ (fun _ => ?_)
theorem whirligiglaw22_TreeRight.mono : ∀ a0 k, LeO (whirligiglaw22_TreeRight.f k a0) (whirligiglaw22_TreeRight.f (k + 1) a0) := by
 intro a0 k
 obtain ⟨ih0, ih1⟩ := whirligiglaw22_TreeRight.mono_l k
 unfold whirligiglaw22_TreeRight.f
 repeat' first
   | (with_reducible exact ih0 _ _ _ _)
   | (with_reducible exact ih1 _ _ _ _ _ _ _)
   | (with_reducible exact tree_Input_Right.mono _ _ _ _ _)
   | (with_reducible exact tree_Tree_Right.mono _ _)
   | (with_reducible exact whirligiglaw22_anchor.mono _)
   | (with_reducible exact whirligiglaw22_refs.mono _ _)
   | (with_reducible exact whirligigref22_Right.mono _ _)
   | (with_reducible exact whirligigref22_RightInput.mono _ _ _ _ _)
   | (with_reducible exact LeO.refl _)
   | (with_reducible exact LeO.none _)
   | (with_reducible refine LeO.ite ?_ ?_)
   | (with_reducible refine LeO.bind ?_ (fun _ => ?_))
   | exact ih0 _ _ _ _
   | exact ih1 _ _ _ _ _ _ _
   | exact tree_Input_Right.mono _ _ _ _ _
   | exact tree_Tree_Right.mono _ _
   | exact whirligiglaw22_anchor.mono _
   | exact whirligiglaw22_refs.mono _ _
   | exact whirligigref22_Right.mono _ _
   | exact whirligigref22_RightInput.mono _ _ _ _ _
   | exact LeO.none _
   | refine LeO.ite ?_ ?_
   | refine LeO.bind ?_ (fun _ => ?_)
def whirligiglaw22_TreeRight.T13 : Bool × List (List Nat × List Nat) := (true, [([], []), ([0], [0]), ([1], [1]), ([2], [2]), ([3], [3]), ([4], [4]), ([5, 4, 4], [4, 5]), ([4], [4]), ([7, 6, 4], [4, 7]), ([6, 8, 4], [4, 6, 8]), ([4, 9], [4, 9])])
def whirligiglaw22_TreeRight.B13 : List Nat := [0, 1, 3, 7, 15, 31, 63, 31, 255, 511, 1023]
theorem whirligiglaw22_TreeRight.tab13 : rtab .any (opsOf Tryd.f8 13) = whirligiglaw22_TreeRight.T13 := by kernel_rfl
theorem whirligiglaw22_TreeRight.bits13 : waitsOk whirligiglaw22_TreeRight.T13.2 whirligiglaw22_TreeRight.B13 = true := by kernel_rfl
set_option maxHeartbeats 8000000 in
set_option maxRecDepth 100000 in
theorem whirligiglaw22_TreeRight.calls (k : Nat) (A0 : Option Addr) (c0 : Nat) (l0 : List (S43)) (r : Bool) (w : World) (hr0 : Kd.C k43 w A0 l0.length l0) (hc0 : l0.length ≤ c0) (hL : Laid w) (h : whirligiglaw22_TreeRight.f k l0 = some r) :
  Calls Tryd.prog 8 #[.slice A0 l0.length c0] w fun e w' => e = .returned (.bool r) ∧ Below w.heap.size w w' := by
 have hu43 := Tryd.underlying43
 have hu45 := Tryd.underlying45
 have HR0 := Aside0.mk hr0
 have HC0 := Aside0.mk hc0
 clear hr0 hc0
 have HB := Aside0.mk (Below.refl w.heap.size w)
 have HLD := Aside0.mk hL
 clear hL
 have H : ((whirligiglaw22_anchor.f k).bind fun t484 => (if t484 = true then (if (l0.length : Int) > 20 then (some true) else (whirligiglaw22_TreeRight.l0 k l0 l0 (l0.length : Int) 0)) else (some false))) = some r := h
 clear h
 replace H := Option.bind_eq_some_iff.mp H
 obtain ⟨t484, A20, H⟩ := H
 (try dsimp -simprocs only at H)
 have A2 := Aside0.mk A20
 clear A20
 by_cases c3 : t484 = true
 ·subst c3
  rw [if_pos rfl] at H
  by_cases c4 : (l0.length : Int) > 20
  ·rw [if_pos c4] at H
   have c4b0 := decide_eq_true c4
   have c4b1 : decide (20 < l0.length) = true := decide_eq_true (by omega)
   clear c4
   obtain rfl := Option.some.inj H
   go_enter Tryd.func8, Tryd.ntmps8
   go_wp2_with (first | (refine gl (some 7) #[] Tryd.func32 ?_; (with_reducible refine (whirligiglaw22_anchor.calls k  true _ ?side1 A2.out).mono ?_); (case side1 => exact Laid.below HLD.out qB); rintro e w5 ⟨rfl, hb⟩; refine ⟨_, rfl, ?_⟩; replace HB := bst hb; (try clear hb)))
   go_ret
   exact ⟨qR, qB⟩
  ·rw [if_neg c4] at H
   have c4b0 := decide_eq_false c4
   have c4b1 : decide (20 < l0.length) = false := decide_eq_false (by omega)
   clear c4
   have H' := Aside0.mk H
   clear H
   go_enter Tryd.func8, Tryd.ntmps8
   go_wp2_with (first | (refine gl (some 7) #[] Tryd.func32 ?_; (with_reducible refine (whirligiglaw22_anchor.calls k  true _ ?side1 A2.out).mono ?_); (case side1 => exact Laid.below HLD.out qB); rintro e w6 ⟨rfl, hb⟩; refine ⟨_, rfl, ?_⟩; replace HB := bst hb; (try clear hb)))
   go_loopg [14] k (fun kq v14 w' => ∃ (x14_1 : Int), v14 = .int .i64 x14_1 ∧ Aside0 (whirligiglaw22_TreeRight.l0 kq l0 l0 (l0.length : Int) x14_1 = some r) ∧ Aside0 (kq ≤ k) ∧ Aside0 (Below w.heap.size w w'))
   case atStart => exact ⟨(0), (by first | rfl | (simp; done) | (simp [*]; done)), H', ⟨Nat.le_refl _⟩, ⟨qB⟩⟩
   case round =>
    clear H'
    try clear p2
    try clear c3
    try clear c4
    try clear c4b0
    try clear c4b1
    obtain ⟨x14_1, rfl, HA, HK1, HB⟩ := hrel
    cases gk with
    | zero => exact absurd HA.out (by simp [whirligiglaw22_TreeRight.l0])
    | succ k1 =>
     have H := HA.out
     clear HA
     simp only [whirligiglaw22_TreeRight.l0] at H
     by_cases c7 : x14_1 < (l0.length : Int)
     ·rw [if_pos c7] at H
      have c7b0 := decide_eq_true c7
      clear c7
      by_cases c8 : 0 ≤ x14_1
      ·rw [if_pos c8] at H
       have c8b0 := decide_eq_true c8
       clear c8
       by_cases c9 : x14_1 < (l0.length : Int)
       ·rw [if_pos c9] at H
        have c9b0 := decide_eq_true c9
        clear c9
        by_cases c10 : (((rd_T43 l0 x14_1).f3).length : Int) > 600
        ·rw [if_pos c10] at H
         have c10b0 := decide_eq_true c10
         have c10b1 : decide (600 < ((rd_T43 l0 x14_1).f3).length) = true := decide_eq_true (by omega)
         clear c10
         obtain rfl := Option.some.inj H
         have p490 : 0 ≤ (x14_1 : Int) := qD
         have q490 : x14_1 < (l0.length : Int) := qD
         obtain ⟨ad490, A490_3, c490_3, e490, hx490_0, hx490_1, hx490_2, hx490_3, hl490_3, hi490_3⟩ := at_T43 HR0.out x14_1 p490 q490
         cases e490
         replace hx490_0 := pw_cell_below HB.out hx490_0
         replace hx490_1 := pw_cell_below HB.out hx490_1
         replace hx490_2 := pw_cell_below HB.out hx490_2
         replace hx490_3 := pw_cell_below HB.out hx490_3
         have HR490_3 := Aside0.mk hi490_3
         have HC490_3 := Aside0.mk hl490_3
         clear hi490_3 hl490_3
         replace p490 := eq_true p490
         replace q490 := eq_true q490
         go_wp2_with (first | (refine bx 4 #[.int .i64 0, .int .i64 0, .int .i64 0, .slice none 0 0] 43 ?_; intro gb491 hg w11 hbox hb; have BK491 := Aside0.mk (hbox); have GW491 := geS hg; have GE491 := geS hg; replace HB := bst hb; clear hb hbox hg; obtain ⟨hcz12_0, hcz12_1, hcz12_2, hcz12_3, hfz12_0, hfz12_1, hfz12_2, hfz12_3⟩ := cells4 BK491.out))
         go_ret
         exact ⟨qR, qB⟩
        ·rw [if_neg c10] at H
         have c10b0 := decide_eq_false c10
         have c10b1 : decide (600 < ((rd_T43 l0 x14_1).f3).length) = false := decide_eq_false (by omega)
         clear c10
         have H' := Aside0.mk H
         clear H
         have p490 : 0 ≤ (x14_1 : Int) := qD
         have q490 : x14_1 < (l0.length : Int) := qD
         obtain ⟨ad490, A490_3, c490_3, e490, hx490_0, hx490_1, hx490_2, hx490_3, hl490_3, hi490_3⟩ := at_T43 HR0.out x14_1 p490 q490
         cases e490
         replace hx490_0 := pw_cell_below HB.out hx490_0
         replace hx490_1 := pw_cell_below HB.out hx490_1
         replace hx490_2 := pw_cell_below HB.out hx490_2
         replace hx490_3 := pw_cell_below HB.out hx490_3
         have HR490_3 := Aside0.mk hi490_3
         have HC490_3 := Aside0.mk hl490_3
         clear hi490_3 hl490_3
         replace p490 := eq_true p490
         replace q490 := eq_true q490
         go_wp2_with (first | (refine bx 4 #[.int .i64 0, .int .i64 0, .int .i64 0, .slice none 0 0] 43 ?_; intro gb491 hg w13 hbox hb; have BK491 := Aside0.mk (hbox); have GW491 := geS hg; have GE491 := geS hg; replace HB := bst hb; clear hb hbox hg; obtain ⟨hcz14_0, hcz14_1, hcz14_2, hcz14_3, hfz14_0, hfz14_1, hfz14_2, hfz14_3⟩ := cells4 BK491.out))
         go_loopg [25] k1 (fun kq v25 w' => ∃ (x25_2 : Int), v25 = .int .i64 x25_2 ∧ Aside0 (whirligiglaw22_TreeRight.l1 kq l0 l0 (l0.length : Int) x14_1 ((rd_T43 l0 x14_1).f3) (((rd_T43 l0 x14_1).f3).length : Int) x25_2 = some r) ∧ Aside0 (kq ≤ k1) ∧ Aside0 (w'.heap[gb491]? = some (.cells #[.int .i64 ((rd_T43 l0 x14_1).f0), .int .i64 ((rd_T43 l0 x14_1).f1), .int .i64 ((rd_T43 l0 x14_1).f2), (.slice A490_3 ((rd_T43 l0 x14_1).f3).length c490_3)] 43 (0, 0))) ∧ Aside0 (Below w.heap.size w w'))
         case atStart => exact ⟨(0), (by first | rfl | (simp; done) | (simp [*]; done)), H', ⟨Nat.le_refl _⟩, ⟨qP⟩, ⟨qB⟩⟩
         case round =>
          clear H'
          try clear c1
          try clear p2 p2
          try clear c3
          try clear c4
          try clear c4b0
          try clear c4b1
          try clear p4
          try clear q4
          try clear hx4
          try clear c7
          try clear c7b0
          try clear c8
          try clear c8b0
          try clear c9
          try clear c9b0
          try clear c10
          try clear c10b0
          try clear c10b1
          try clear hcz12_0 hcz12_1 hcz12_2 hcz12_3 hfz12_0 hfz12_1 hfz12_2 hfz12_3
          try clear hcz14_0 hcz14_1 hcz14_2 hcz14_3 hfz14_0 hfz14_1 hfz14_2 hfz14_3
          try clear hx490_0
          try clear hx490_1
          try clear hx490_2
          try clear hx490_3
          try clear p490
          try clear q490
          obtain ⟨x25_2, rfl, HA, HK2, BK491, HB⟩ := hrel
          cases gk with
          | zero => exact absurd HA.out (by simp [whirligiglaw22_TreeRight.l1])
          | succ k2 =>
           have H := HA.out
           clear HA
           simp only [whirligiglaw22_TreeRight.l1] at H
           by_cases c15 : x25_2 < (((rd_T43 l0 x14_1).f3).length : Int)
           ·rw [if_pos c15] at H
            have c15b0 := decide_eq_true c15
            clear c15
            by_cases c16 : 0 ≤ x25_2
            ·rw [if_pos c16] at H
             have c16b0 := decide_eq_true c16
             clear c16
             by_cases c17 : x25_2 < (((rd_T43 l0 x14_1).f3).length : Int)
             ·rw [if_pos c17] at H
              have c17b0 := decide_eq_true c17
              clear c17
              by_cases c18 : (((rd_T45 ((rd_T43 l0 x14_1).f3) x25_2).f2).size : Int) > 200
              ·rw [if_pos c18] at H
               have c18b0 := decide_eq_true c18
               have c18b1 : decide (200 < ((rd_T45 ((rd_T43 l0 x14_1).f3) x25_2).f2).size) = true := decide_eq_true (by omega)
               clear c18
               obtain rfl := Option.some.inj H
               have p492 : 0 ≤ (x25_2 : Int) := qD
               have q492 : x25_2 < (((rd_T43 l0 x14_1).f3).length : Int) := qD
               obtain ⟨ad492, e492, hx492_0, hx492_1, hx492_2, hx492_3⟩ := at_T45 (Kd.C_below HR490_3.out HB.out) x25_2 p492 q492
               cases e492
               replace p492 := eq_true p492
               replace q492 := eq_true q492
               try go_wp2_with (first | (refine bx 6 #[.int .i64 0, .int .i64 0, .string (⟨#[]⟩ : ByteArray), .int .i64 0] 45 ?_; intro gb493 hg w19 hbox hb; have BK493 := Aside0.mk (hbox); have GW493 := geS hg; have GE493 := geS hg; have NB491_493 := neS gb491 hg; have NB493_491 := neT gb491 hg; replace BK491 := kb gb491 hb; replace HB := bst hb; clear hb hbox hg; have hnb20 := NB493_491.out; have hnc20 := NB491_493.out; obtain ⟨hcz21_0, hcz21_1, hcz21_2, hcz21_3, hfz21_0, hfz21_1, hfz21_2, hfz21_3⟩ := cells4 BK493.out))
               have n0_ : Aside0 (((((w19.setCell ⟨gb493, 0, none⟩ (.int .i64 ((rd_T45 ((rd_T43 l0 x14_1).f3) x25_2).f0))).setCell ⟨gb493, 1, none⟩ (.int .i64 ((rd_T45 ((rd_T43 l0 x14_1).f3) x25_2).f1))).setCell ⟨gb493, 2, none⟩ (.string ((rd_T45 ((rd_T43 l0 x14_1).f3) x25_2).f2))).setCell ⟨gb493, 3, none⟩ (.int .i64 ((rd_T45 ((rd_T43 l0 x14_1).f3) x25_2).f3))).heap[gb491]? = some (.cells #[.int .i64 ((rd_T43 l0 x14_1).f0), .int .i64 ((rd_T43 l0 x14_1).f1), .int .i64 ((rd_T43 l0 x14_1).f2), .slice (some ad492) ((rd_T43 l0 x14_1).f3).length c490_3] 43 (0, 0))) := ⟨qK⟩
               have n1_ : Aside0 (((((w19.setCell ⟨gb493, 0, none⟩ (.int .i64 ((rd_T45 ((rd_T43 l0 x14_1).f3) x25_2).f0))).setCell ⟨gb493, 1, none⟩ (.int .i64 ((rd_T45 ((rd_T43 l0 x14_1).f3) x25_2).f1))).setCell ⟨gb493, 2, none⟩ (.string ((rd_T45 ((rd_T43 l0 x14_1).f3) x25_2).f2))).setCell ⟨gb493, 3, none⟩ (.int .i64 ((rd_T45 ((rd_T43 l0 x14_1).f3) x25_2).f3))).heap[gb493]? = some (.cells #[.int .i64 ((rd_T45 ((rd_T43 l0 x14_1).f3) x25_2).f0), .int .i64 ((rd_T45 ((rd_T43 l0 x14_1).f3) x25_2).f1), .string ((rd_T45 ((rd_T43 l0 x14_1).f3) x25_2).f2), .int .i64 ((rd_T45 ((rd_T43 l0 x14_1).f3) x25_2).f3)] 45 (0, 0))) := ⟨qP⟩
               have n2_ : Aside0 (Below w.heap.size w ((((w19.setCell ⟨gb493, 0, none⟩ (.int .i64 ((rd_T45 ((rd_T43 l0 x14_1).f3) x25_2).f0))).setCell ⟨gb493, 1, none⟩ (.int .i64 ((rd_T45 ((rd_T43 l0 x14_1).f3) x25_2).f1))).setCell ⟨gb493, 2, none⟩ (.string ((rd_T45 ((rd_T43 l0 x14_1).f3) x25_2).f2))).setCell ⟨gb493, 3, none⟩ (.int .i64 ((rd_T45 ((rd_T43 l0 x14_1).f3) x25_2).f3)))) := ⟨qB⟩
               (try clear BK491)
               (try clear BK493)
               (try clear HB)
               generalize ((((w19.setCell ⟨gb493, 0, none⟩ (.int .i64 ((rd_T45 ((rd_T43 l0 x14_1).f3) x25_2).f0))).setCell ⟨gb493, 1, none⟩ (.int .i64 ((rd_T45 ((rd_T43 l0 x14_1).f3) x25_2).f1))).setCell ⟨gb493, 2, none⟩ (.string ((rd_T45 ((rd_T43 l0 x14_1).f3) x25_2).f2))).setCell ⟨gb493, 3, none⟩ (.int .i64 ((rd_T45 ((rd_T43 l0 x14_1).f3) x25_2).f3))) = w22 at n0_ n1_ n2_ ⊢
               have BK491 := n0_
               have BK493 := n1_
               have HB := n2_
               clear n0_ n1_ n2_
               replace BK491 := Aside0.mk (blk_drew BK491.out)
               replace BK493 := Aside0.mk (blk_drew BK493.out)
               replace HB := Aside0.mk (below_drew1 HB.out)
               refine start_ (n := 11) (S := fun w' => w'.cell? ⟨gb493, 0, none⟩ = some (.int .i64 ((rd_T45 ((rd_T43 l0 x14_1).f3) x25_2).f0)) ∧ w'.cell? ⟨gb493, 1, none⟩ = some (.int .i64 ((rd_T45 ((rd_T43 l0 x14_1).f3) x25_2).f1)) ∧ w'.cell? ⟨gb493, 2, none⟩ = some (.string ((rd_T45 ((rd_T43 l0 x14_1).f3) x25_2).f2)) ∧ w'.cell? ⟨gb493, 3, none⟩ = some (.int .i64 ((rd_T45 ((rd_T43 l0 x14_1).f3) x25_2).f3))) (ds := []) #[false, false, false, false, false, false, false, false, false, false, false] (by kernel_rfl) rfl rfl ⟨(blk_cell BK493.out 0).trans rfl, (blk_cell BK493.out 1).trans rfl, (blk_cell BK493.out 2).trans rfl, (blk_cell BK493.out 3).trans rfl⟩ (fun hHeld => ?_); refine with_tabW whirligiglaw22_TreeRight.tab13 whirligiglaw22_TreeRight.bits13 (fun HT_ HW_ => ?_)
               generalize w22.drew = w23 at BK491 BK493 HB hHeld ⊢
               refine pu 0 29 ?_; refine tk 1 30 ?_
               refine pu 2 31 ?_; refine pu 3 32 ?_
               refine pu 4 33 ?_; refine po 5 34 ?_
               refine po 6 35 ?_; refine po 7 36 ?_
               refine po 8 37 ?_; refine po 9 38 ?_; refine pu 10 39 ?_
               refine done_ (done_of HT_.out (by kernel_rfl)) ?_
               obtain ⟨hcz24_0, hcz24_1, hcz24_2, hcz24_3, hfz24_0, hfz24_1, hfz24_2, hfz24_3⟩ := cells4 BK493.out
               try go_wp2
               go_ret
               exact ⟨qR, qB⟩
              ·rw [if_neg c18] at H
               have c18b0 := decide_eq_false c18
               have c18b1 : decide (200 < ((rd_T45 ((rd_T43 l0 x14_1).f3) x25_2).f2).size) = false := decide_eq_false (by omega)
               clear c18
               replace H := Option.bind_eq_some_iff.mp H
               obtain ⟨t494, A250, H⟩ := H
               (try dsimp -simprocs only at H)
               have A25 := Aside0.mk A250
               clear A250
               replace H := Option.bind_eq_some_iff.mp H
               obtain ⟨t495, A260, H⟩ := H
               (try dsimp -simprocs only at H)
               have A26 := Aside0.mk A260
               clear A260
               by_cases c27 : (t494 != t495) = true
               ·rw [if_pos c27] at H
                have c27b0 : (t494 != t495) = true := c27
                (try (have c27b1 : decide (t494 = t495) = false := by simpa using c27))
                (try (have c27b2 : (t494 == t495) = false := by simpa using c27))
                (try (have c27b3 : ¬ (t494 = t495) := by simpa using c27))
                clear c27
                obtain rfl := Option.some.inj H
                have p492 : 0 ≤ (x25_2 : Int) := qD
                have q492 : x25_2 < (((rd_T43 l0 x14_1).f3).length : Int) := qD
                obtain ⟨ad492, e492, hx492_0, hx492_1, hx492_2, hx492_3⟩ := at_T45 (Kd.C_below HR490_3.out HB.out) x25_2 p492 q492
                cases e492
                replace p492 := eq_true p492
                replace q492 := eq_true q492
                try go_wp2_with (first | (refine bx 6 #[.int .i64 0, .int .i64 0, .string (⟨#[]⟩ : ByteArray), .int .i64 0] 45 ?_; intro gb493 hg w28 hbox hb; have BK493 := Aside0.mk (hbox); have GW493 := geS hg; have GE493 := geS hg; have NB491_493 := neS gb491 hg; have NB493_491 := neT gb491 hg; replace BK491 := kb gb491 hb; replace HB := bst hb; clear hb hbox hg; have hnb29 := NB493_491.out; have hnc29 := NB491_493.out; obtain ⟨hcz30_0, hcz30_1, hcz30_2, hcz30_3, hfz30_0, hfz30_1, hfz30_2, hfz30_3⟩ := cells4 BK493.out))
                have n0_ : Aside0 (((((w28.setCell ⟨gb493, 0, none⟩ (.int .i64 ((rd_T45 ((rd_T43 l0 x14_1).f3) x25_2).f0))).setCell ⟨gb493, 1, none⟩ (.int .i64 ((rd_T45 ((rd_T43 l0 x14_1).f3) x25_2).f1))).setCell ⟨gb493, 2, none⟩ (.string ((rd_T45 ((rd_T43 l0 x14_1).f3) x25_2).f2))).setCell ⟨gb493, 3, none⟩ (.int .i64 ((rd_T45 ((rd_T43 l0 x14_1).f3) x25_2).f3))).heap[gb491]? = some (.cells #[.int .i64 ((rd_T43 l0 x14_1).f0), .int .i64 ((rd_T43 l0 x14_1).f1), .int .i64 ((rd_T43 l0 x14_1).f2), .slice (some ad492) ((rd_T43 l0 x14_1).f3).length c490_3] 43 (0, 0))) := ⟨qK⟩
                have n1_ : Aside0 (((((w28.setCell ⟨gb493, 0, none⟩ (.int .i64 ((rd_T45 ((rd_T43 l0 x14_1).f3) x25_2).f0))).setCell ⟨gb493, 1, none⟩ (.int .i64 ((rd_T45 ((rd_T43 l0 x14_1).f3) x25_2).f1))).setCell ⟨gb493, 2, none⟩ (.string ((rd_T45 ((rd_T43 l0 x14_1).f3) x25_2).f2))).setCell ⟨gb493, 3, none⟩ (.int .i64 ((rd_T45 ((rd_T43 l0 x14_1).f3) x25_2).f3))).heap[gb493]? = some (.cells #[.int .i64 ((rd_T45 ((rd_T43 l0 x14_1).f3) x25_2).f0), .int .i64 ((rd_T45 ((rd_T43 l0 x14_1).f3) x25_2).f1), .string ((rd_T45 ((rd_T43 l0 x14_1).f3) x25_2).f2), .int .i64 ((rd_T45 ((rd_T43 l0 x14_1).f3) x25_2).f3)] 45 (0, 0))) := ⟨qP⟩
                have n2_ : Aside0 (Below w.heap.size w ((((w28.setCell ⟨gb493, 0, none⟩ (.int .i64 ((rd_T45 ((rd_T43 l0 x14_1).f3) x25_2).f0))).setCell ⟨gb493, 1, none⟩ (.int .i64 ((rd_T45 ((rd_T43 l0 x14_1).f3) x25_2).f1))).setCell ⟨gb493, 2, none⟩ (.string ((rd_T45 ((rd_T43 l0 x14_1).f3) x25_2).f2))).setCell ⟨gb493, 3, none⟩ (.int .i64 ((rd_T45 ((rd_T43 l0 x14_1).f3) x25_2).f3)))) := ⟨qB⟩
                (try clear BK491)
                (try clear BK493)
                (try clear HB)
                generalize ((((w28.setCell ⟨gb493, 0, none⟩ (.int .i64 ((rd_T45 ((rd_T43 l0 x14_1).f3) x25_2).f0))).setCell ⟨gb493, 1, none⟩ (.int .i64 ((rd_T45 ((rd_T43 l0 x14_1).f3) x25_2).f1))).setCell ⟨gb493, 2, none⟩ (.string ((rd_T45 ((rd_T43 l0 x14_1).f3) x25_2).f2))).setCell ⟨gb493, 3, none⟩ (.int .i64 ((rd_T45 ((rd_T43 l0 x14_1).f3) x25_2).f3))) = w31 at n0_ n1_ n2_ ⊢
                have BK491 := n0_
                have BK493 := n1_
                have HB := n2_
                clear n0_ n1_ n2_
                replace BK491 := Aside0.mk (blk_drew BK491.out)
                replace BK493 := Aside0.mk (blk_drew BK493.out)
                replace HB := Aside0.mk (below_drew1 HB.out)
                refine start_ (n := 11) (S := fun w' => w'.cell? ⟨gb493, 0, none⟩ = some (.int .i64 ((rd_T45 ((rd_T43 l0 x14_1).f3) x25_2).f0)) ∧ w'.cell? ⟨gb493, 1, none⟩ = some (.int .i64 ((rd_T45 ((rd_T43 l0 x14_1).f3) x25_2).f1)) ∧ w'.cell? ⟨gb493, 2, none⟩ = some (.string ((rd_T45 ((rd_T43 l0 x14_1).f3) x25_2).f2)) ∧ w'.cell? ⟨gb493, 3, none⟩ = some (.int .i64 ((rd_T45 ((rd_T43 l0 x14_1).f3) x25_2).f3))) (ds := []) #[false, false, false, false, false, false, false, false, false, false, false] (by kernel_rfl) rfl rfl ⟨(blk_cell BK493.out 0).trans rfl, (blk_cell BK493.out 1).trans rfl, (blk_cell BK493.out 2).trans rfl, (blk_cell BK493.out 3).trans rfl⟩ (fun hHeld => ?_); refine with_tabW whirligiglaw22_TreeRight.tab13 whirligiglaw22_TreeRight.bits13 (fun HT_ HW_ => ?_)
                generalize w31.drew = w32 at BK491 BK493 HB hHeld ⊢
                refine pu 0 29 ?_; refine tk 1 30 ?_
                refine pu 2 31 ?_; refine pu 3 32 ?_
                refine pu 4 33 ?_; refine tk 5 34 ?_; refine tk 7 36 ?_
                refine onx 6 35 (fun K hK => ?_)
                refine goes_ Tryd.func33 (by kernel_rfl) rfl #[.agg #[.int .i64 ((rd_T45 ((rd_T43 l0 x14_1).f3) x25_2).f0), .int .i64 ((rd_T45 ((rd_T43 l0 x14_1).f3) x25_2).f1), .string ((rd_T45 ((rd_T43 l0 x14_1).f3) x25_2).f2), .int .i64 ((rd_T45 ((rd_T43 l0 x14_1).f3) x25_2).f3)]] (by rfl) rfl rfl (by (try simp only [List.map_toArray, List.map_cons, List.map_nil]); first | done | rfl | (simp only [List.length_drop, List.length_take]; rfl)) ?_
                with_reducible refine (tree_Input_Right.calls k2 ((rd_T45 ((rd_T43 l0 x14_1).f3) x25_2).f0) ((rd_T45 ((rd_T43 l0 x14_1).f3) x25_2).f1) ((rd_T45 ((rd_T43 l0 x14_1).f3) x25_2).f2) ((rd_T45 ((rd_T43 l0 x14_1).f3) x25_2).f3) t494 _ ?side1 A25.out).mono ?_
                (case side1 => exact Laid.below HLD.out qB)
                rintro e w33 ⟨rfl, hb⟩
                refine ⟨_, rfl, ?_⟩
                replace BK491 := kb gb491 hb
                replace BK493 := kb gb493 hb
                replace HB := bst hb
                (try clear hb)
                (try clear hb2)
                (try clear hk)
                (try clear hi)
                refine hK.out _ _ ⟨(blk_cell BK493.out 0).trans rfl, (blk_cell BK493.out 1).trans rfl, (blk_cell BK493.out 2).trans rfl, (blk_cell BK493.out 3).trans rfl⟩ (fun hHeld => ?_)
                clear hK K
                refine nm 35 ?_
                refine onx 8 37 (fun K hK => ?_)
                refine goes_ Tryd.func34 (by kernel_rfl) rfl #[.agg #[.int .i64 ((rd_T45 ((rd_T43 l0 x14_1).f3) x25_2).f0), .int .i64 ((rd_T45 ((rd_T43 l0 x14_1).f3) x25_2).f1), .string ((rd_T45 ((rd_T43 l0 x14_1).f3) x25_2).f2), .int .i64 ((rd_T45 ((rd_T43 l0 x14_1).f3) x25_2).f3)]] (by rfl) rfl rfl (by (try simp only [List.map_toArray, List.map_cons, List.map_nil]); first | done | rfl | (simp only [List.length_drop, List.length_take]; rfl)) ?_
                with_reducible refine (whirligigref22_RightInput.calls k2 ((rd_T45 ((rd_T43 l0 x14_1).f3) x25_2).f0) ((rd_T45 ((rd_T43 l0 x14_1).f3) x25_2).f1) ((rd_T45 ((rd_T43 l0 x14_1).f3) x25_2).f2) ((rd_T45 ((rd_T43 l0 x14_1).f3) x25_2).f3) t495 _ A26.out).mono ?_
                rintro e w34 ⟨rfl, hb⟩
                refine ⟨_, rfl, ?_⟩
                replace BK491 := kb gb491 hb
                replace BK493 := kb gb493 hb
                replace HB := bst hb
                (try clear hb)
                (try clear hb2)
                (try clear hk)
                (try clear hi)
                refine hK.out _ _ ⟨(blk_cell BK493.out 0).trans rfl, (blk_cell BK493.out 1).trans rfl, (blk_cell BK493.out 2).trans rfl, (blk_cell BK493.out 3).trans rfl⟩ (fun hHeld => ?_)
                clear hK K
                refine nm 37 ?_
                refine pu 9 38 ?_; refine pu 10 39 ?_
                refine done_ (done_of HT_.out (by kernel_rfl)) ?_
                obtain ⟨hcz35_0, hcz35_1, hcz35_2, hcz35_3, hfz35_0, hfz35_1, hfz35_2, hfz35_3⟩ := cells4 BK493.out
                try go_wp2
                go_ret
                exact ⟨qR, qB⟩
               ·rw [if_neg c27] at H
                have c27b0 : (t494 != t495) = false := by simpa using c27
                (try (have c27b1 : decide (t494 = t495) = true := by simpa using c27))
                (try (have c27b2 : (t494 == t495) = true := by simpa using c27))
                clear c27
                have H' := Aside0.mk H
                clear H
                have p492 : 0 ≤ (x25_2 : Int) := qD
                have q492 : x25_2 < (((rd_T43 l0 x14_1).f3).length : Int) := qD
                obtain ⟨ad492, e492, hx492_0, hx492_1, hx492_2, hx492_3⟩ := at_T45 (Kd.C_below HR490_3.out HB.out) x25_2 p492 q492
                cases e492
                replace p492 := eq_true p492
                replace q492 := eq_true q492
                try go_wp2_with (first | (refine bx 6 #[.int .i64 0, .int .i64 0, .string (⟨#[]⟩ : ByteArray), .int .i64 0] 45 ?_; intro gb493 hg w36 hbox hb; have BK493 := Aside0.mk (hbox); have GW493 := geS hg; have GE493 := geS hg; have NB491_493 := neS gb491 hg; have NB493_491 := neT gb491 hg; replace BK491 := kb gb491 hb; replace HB := bst hb; clear hb hbox hg; have hnb37 := NB493_491.out; have hnc37 := NB491_493.out; obtain ⟨hcz38_0, hcz38_1, hcz38_2, hcz38_3, hfz38_0, hfz38_1, hfz38_2, hfz38_3⟩ := cells4 BK493.out))
                have n0_ : Aside0 (((((w36.setCell ⟨gb493, 0, none⟩ (.int .i64 ((rd_T45 ((rd_T43 l0 x14_1).f3) x25_2).f0))).setCell ⟨gb493, 1, none⟩ (.int .i64 ((rd_T45 ((rd_T43 l0 x14_1).f3) x25_2).f1))).setCell ⟨gb493, 2, none⟩ (.string ((rd_T45 ((rd_T43 l0 x14_1).f3) x25_2).f2))).setCell ⟨gb493, 3, none⟩ (.int .i64 ((rd_T45 ((rd_T43 l0 x14_1).f3) x25_2).f3))).heap[gb491]? = some (.cells #[.int .i64 ((rd_T43 l0 x14_1).f0), .int .i64 ((rd_T43 l0 x14_1).f1), .int .i64 ((rd_T43 l0 x14_1).f2), .slice (some ad492) ((rd_T43 l0 x14_1).f3).length c490_3] 43 (0, 0))) := ⟨qK⟩
                have n1_ : Aside0 (((((w36.setCell ⟨gb493, 0, none⟩ (.int .i64 ((rd_T45 ((rd_T43 l0 x14_1).f3) x25_2).f0))).setCell ⟨gb493, 1, none⟩ (.int .i64 ((rd_T45 ((rd_T43 l0 x14_1).f3) x25_2).f1))).setCell ⟨gb493, 2, none⟩ (.string ((rd_T45 ((rd_T43 l0 x14_1).f3) x25_2).f2))).setCell ⟨gb493, 3, none⟩ (.int .i64 ((rd_T45 ((rd_T43 l0 x14_1).f3) x25_2).f3))).heap[gb493]? = some (.cells #[.int .i64 ((rd_T45 ((rd_T43 l0 x14_1).f3) x25_2).f0), .int .i64 ((rd_T45 ((rd_T43 l0 x14_1).f3) x25_2).f1), .string ((rd_T45 ((rd_T43 l0 x14_1).f3) x25_2).f2), .int .i64 ((rd_T45 ((rd_T43 l0 x14_1).f3) x25_2).f3)] 45 (0, 0))) := ⟨qP⟩
                have n2_ : Aside0 (Below w.heap.size w ((((w36.setCell ⟨gb493, 0, none⟩ (.int .i64 ((rd_T45 ((rd_T43 l0 x14_1).f3) x25_2).f0))).setCell ⟨gb493, 1, none⟩ (.int .i64 ((rd_T45 ((rd_T43 l0 x14_1).f3) x25_2).f1))).setCell ⟨gb493, 2, none⟩ (.string ((rd_T45 ((rd_T43 l0 x14_1).f3) x25_2).f2))).setCell ⟨gb493, 3, none⟩ (.int .i64 ((rd_T45 ((rd_T43 l0 x14_1).f3) x25_2).f3)))) := ⟨qB⟩
                (try clear BK491)
                (try clear BK493)
                (try clear HB)
                generalize ((((w36.setCell ⟨gb493, 0, none⟩ (.int .i64 ((rd_T45 ((rd_T43 l0 x14_1).f3) x25_2).f0))).setCell ⟨gb493, 1, none⟩ (.int .i64 ((rd_T45 ((rd_T43 l0 x14_1).f3) x25_2).f1))).setCell ⟨gb493, 2, none⟩ (.string ((rd_T45 ((rd_T43 l0 x14_1).f3) x25_2).f2))).setCell ⟨gb493, 3, none⟩ (.int .i64 ((rd_T45 ((rd_T43 l0 x14_1).f3) x25_2).f3))) = w39 at n0_ n1_ n2_ ⊢
                have BK491 := n0_
                have BK493 := n1_
                have HB := n2_
                clear n0_ n1_ n2_
                replace BK491 := Aside0.mk (blk_drew BK491.out)
                replace BK493 := Aside0.mk (blk_drew BK493.out)
                replace HB := Aside0.mk (below_drew1 HB.out)
                refine start_ (n := 11) (S := fun w' => w'.cell? ⟨gb493, 0, none⟩ = some (.int .i64 ((rd_T45 ((rd_T43 l0 x14_1).f3) x25_2).f0)) ∧ w'.cell? ⟨gb493, 1, none⟩ = some (.int .i64 ((rd_T45 ((rd_T43 l0 x14_1).f3) x25_2).f1)) ∧ w'.cell? ⟨gb493, 2, none⟩ = some (.string ((rd_T45 ((rd_T43 l0 x14_1).f3) x25_2).f2)) ∧ w'.cell? ⟨gb493, 3, none⟩ = some (.int .i64 ((rd_T45 ((rd_T43 l0 x14_1).f3) x25_2).f3))) (ds := []) #[false, false, false, false, false, false, false, false, false, false, false] (by kernel_rfl) rfl rfl ⟨(blk_cell BK493.out 0).trans rfl, (blk_cell BK493.out 1).trans rfl, (blk_cell BK493.out 2).trans rfl, (blk_cell BK493.out 3).trans rfl⟩ (fun hHeld => ?_); refine with_tabW whirligiglaw22_TreeRight.tab13 whirligiglaw22_TreeRight.bits13 (fun HT_ HW_ => ?_)
                generalize w39.drew = w40 at BK491 BK493 HB hHeld ⊢
                refine pu 0 29 ?_; refine tk 1 30 ?_
                refine pu 2 31 ?_; refine pu 3 32 ?_
                refine pu 4 33 ?_; refine tk 5 34 ?_; refine tk 7 36 ?_
                refine onx 6 35 (fun K hK => ?_)
                refine goes_ Tryd.func33 (by kernel_rfl) rfl #[.agg #[.int .i64 ((rd_T45 ((rd_T43 l0 x14_1).f3) x25_2).f0), .int .i64 ((rd_T45 ((rd_T43 l0 x14_1).f3) x25_2).f1), .string ((rd_T45 ((rd_T43 l0 x14_1).f3) x25_2).f2), .int .i64 ((rd_T45 ((rd_T43 l0 x14_1).f3) x25_2).f3)]] (by rfl) rfl rfl (by (try simp only [List.map_toArray, List.map_cons, List.map_nil]); first | done | rfl | (simp only [List.length_drop, List.length_take]; rfl)) ?_
                with_reducible refine (tree_Input_Right.calls k2 ((rd_T45 ((rd_T43 l0 x14_1).f3) x25_2).f0) ((rd_T45 ((rd_T43 l0 x14_1).f3) x25_2).f1) ((rd_T45 ((rd_T43 l0 x14_1).f3) x25_2).f2) ((rd_T45 ((rd_T43 l0 x14_1).f3) x25_2).f3) t494 _ ?side1 A25.out).mono ?_
                (case side1 => exact Laid.below HLD.out qB)
                rintro e w41 ⟨rfl, hb⟩
                refine ⟨_, rfl, ?_⟩
                replace BK491 := kb gb491 hb
                replace BK493 := kb gb493 hb
                replace HB := bst hb
                (try clear hb)
                (try clear hb2)
                (try clear hk)
                (try clear hi)
                refine hK.out _ _ ⟨(blk_cell BK493.out 0).trans rfl, (blk_cell BK493.out 1).trans rfl, (blk_cell BK493.out 2).trans rfl, (blk_cell BK493.out 3).trans rfl⟩ (fun hHeld => ?_)
                clear hK K
                refine nm 35 ?_
                refine onx 8 37 (fun K hK => ?_)
                refine goes_ Tryd.func34 (by kernel_rfl) rfl #[.agg #[.int .i64 ((rd_T45 ((rd_T43 l0 x14_1).f3) x25_2).f0), .int .i64 ((rd_T45 ((rd_T43 l0 x14_1).f3) x25_2).f1), .string ((rd_T45 ((rd_T43 l0 x14_1).f3) x25_2).f2), .int .i64 ((rd_T45 ((rd_T43 l0 x14_1).f3) x25_2).f3)]] (by rfl) rfl rfl (by (try simp only [List.map_toArray, List.map_cons, List.map_nil]); first | done | rfl | (simp only [List.length_drop, List.length_take]; rfl)) ?_
                with_reducible refine (whirligigref22_RightInput.calls k2 ((rd_T45 ((rd_T43 l0 x14_1).f3) x25_2).f0) ((rd_T45 ((rd_T43 l0 x14_1).f3) x25_2).f1) ((rd_T45 ((rd_T43 l0 x14_1).f3) x25_2).f2) ((rd_T45 ((rd_T43 l0 x14_1).f3) x25_2).f3) t495 _ A26.out).mono ?_
                rintro e w42 ⟨rfl, hb⟩
                refine ⟨_, rfl, ?_⟩
                replace BK491 := kb gb491 hb
                replace BK493 := kb gb493 hb
                replace HB := bst hb
                (try clear hb)
                (try clear hb2)
                (try clear hk)
                (try clear hi)
                refine hK.out _ _ ⟨(blk_cell BK493.out 0).trans rfl, (blk_cell BK493.out 1).trans rfl, (blk_cell BK493.out 2).trans rfl, (blk_cell BK493.out 3).trans rfl⟩ (fun hHeld => ?_)
                clear hK K
                refine nm 37 ?_
                refine pu 9 38 ?_; refine pu 10 39 ?_
                refine done_ (done_of HT_.out (by kernel_rfl)) ?_
                try go_wp2
                go_roundg k2
                case measure => have := HK1.out; have := HK2.out; omega
                case rel => exact ⟨(wrap64 (x25_2 + 1)), (by first | rfl | (simp; done) | (simp [*]; done)), H', ⟨by have := HK1.out; have := HK2.out; omega⟩, ⟨qK⟩, ⟨qB⟩⟩
             ·rw [if_neg c17] at H
              exact absurd H (by simp)
            ·rw [if_neg c16] at H
             exact absurd H (by simp)
           ·rw [if_neg c15] at H
            have c15b0 := decide_eq_false c15
            clear c15
            have H' := Aside0.mk H
            clear H
            go_wp2
            go_roundg k2
            case measure => have := HK1.out; have := HK2.out; omega
            case rel => exact ⟨(wrap64 (x14_1 + 1)), (by first | rfl | (simp; done) | (simp [*]; done)), H', ⟨by have := HK1.out; have := HK2.out; omega⟩, ⟨qB⟩⟩
       ·rw [if_neg c9] at H
        exact absurd H (by simp)
      ·rw [if_neg c8] at H
       exact absurd H (by simp)
     ·rw [if_neg c7] at H
      have c7b0 := decide_eq_false c7
      clear c7
      replace H := Option.bind_eq_some_iff.mp H
      obtain ⟨t485, A430, H⟩ := H
      (try dsimp -simprocs only at H)
      have A43 := Aside0.mk A430
      clear A430
      replace H := Option.bind_eq_some_iff.mp H
      obtain ⟨t486, A440, H⟩ := H
      (try dsimp -simprocs only at H)
      have A44 := Aside0.mk A440
      clear A440
      replace H := Option.bind_eq_some_iff.mp H
      obtain ⟨t489, A450, H⟩ := H
      (try dsimp -simprocs only at H)
      have A45 := Aside0.mk A450
      clear A450
      obtain rfl := Option.some.inj H
      go_wp2_with (first | (refine gl (some 47) #[.slice A0 l0.length c0] Tryd.func35 ?_; (with_reducible refine (tree_Tree_Right.calls k1 _ _ l0 t485 _ ?side1 ?side2 ?side3 A43.out).mono ?_); (case side1 => exact qC); (case side2 => exact HC0.out); (case side3 => exact Laid.below HLD.out qB); rintro e w46 ⟨rfl, hb⟩; refine ⟨_, rfl, ?_⟩; replace HB := bst hb; (try clear hb)) | (refine gl (some 49) #[.slice A0 l0.length c0] Tryd.func37 ?_; (with_reducible refine (whirligiglaw22_refs.calls k1 _ _ l0 t486 _ ?side1 ?side2 A44.out).mono ?_); (case side1 => exact qC); (case side2 => exact HC0.out); rintro e w47 ⟨v487, rfl, ho0, hb⟩; refine ⟨_, rfl, ?_⟩; have HO488 := Aside0.mk (Kd.S_lower ho0 (below_size qB)); replace HB := bst hb; (try clear hb); (try clear ho0); obtain ⟨Ao48, co48, eo48⟩ := Kd.S_slice HO488.out; subst eo48) | (refine gl (some 50) #[.slice Ao48 t486.length co48] Tryd.func36 ?_; (with_reducible refine (whirligigref22_Right.calls k1 _ _ t486 t489 _ ?side1 ?side2 A45.out).mono ?_); (case side1 => repeat (first | exact (Kd.S_reads' HO488.out).2.2 | (with_reducible refine Kd.C_alloc ?_ _) | (with_reducible refine Kd.C_drewN ?_ _) | (with_reducible refine Kd.C_drew ?_))); (case side2 => exact (Kd.S_reads' HO488.out).2.1); rintro e w49 ⟨rfl, hb⟩; refine ⟨_, rfl, ?_⟩; have n0_ := Aside0.mk (Kd.S_below (by (with_reducible repeat (first | apply Kd.S_alloc | apply Kd.S_drewN | apply Kd.S_drew)); exact HO488.out) hb); have n1_ := bst hb; clear HO488; clear HB; have HO488 := n0_; have HB := n1_; clear n0_ n1_; (try clear hb)))
      go_ret
      exact ⟨qR, qB⟩
 ·replace c3 := Bool.eq_false_iff.mpr c3
  subst c3
  rw [if_neg (show ¬ (false = true) by decide)] at H
  obtain rfl := Option.some.inj H
  go_enter Tryd.func8, Tryd.ntmps8
  go_wp2_with (first | (refine gl (some 7) #[] Tryd.func32 ?_; (with_reducible refine (whirligiglaw22_anchor.calls k  false _ ?side1 A2.out).mono ?_); (case side1 => exact Laid.below HLD.out qB); rintro e w50 ⟨rfl, hb⟩; refine ⟨_, rfl, ?_⟩; replace HB := bst hb; (try clear hb)))
  go_ret
  exact ⟨qR, qB⟩
end Go.Proofs.YtbngfhlciebeeaaDoor.L
