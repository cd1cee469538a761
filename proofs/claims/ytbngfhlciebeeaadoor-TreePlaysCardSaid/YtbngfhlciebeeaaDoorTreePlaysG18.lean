/- Printed and hand-written steps towards the row (TreePlays), those that it reaches. -/
import Derived.Test.YtbngfhlciebeeaaDoorTreePlaysG4
import Derived.Test.YtbngfhlciebeeaaDoorTreePlaysG5
import Derived.Test.YtbngfhlciebeeaaDoorTreePlaysG15
import Derived.Test.YtbngfhlciebeeaaDoorTreePlaysG17
section
namespace Go.Proofs.YtbngfhlciebeeaaDoor.L
open Go.RowKit Go.Proofs.YtbngfhlciebeeaaDoorW.PrintWords Go.Proofs.YtbngfhlciebeeaaDoorW.PrintLast Go.Proofs.YtbngfhlciebeeaaDoorW.PrintMore
attribute [local go_sem] max2_int min2_int max_two min_two max_three min_three max_four min_four   -- for this text's walks alone
set_option linter.unusedVariables false
set_option linter.unusedSimpArgs false
mutual
def tree_Tree_Right.j0 : Nat → List (S43) → Bool → Option (Bool)
 | 0, _, _ => none
 | k + 1, x0, x12 => if x12 = true then (some false) else (tree_Tree_Right.l0 k x0 x0 (x0.length : Int) 0)
def tree_Tree_Right.l0 : Nat → List (S43) → List (S43) → Int → Int → Option (Bool)
 | 0, _, _, _, _ => none
 | k + 1, x0, x13, x14, x15 => if x15 < x14 then (if 0 ≤ x15 then (if x15 < (x13.length : Int) then (if ((rd_T43 x13 x15).f2) < 0 then (some false) else (if ((rd_T43 x13 x15).f2) > 512 then (some false) else ((tree_Branch_rising.f k ((rd_T43 x13 x15).f0) ((rd_T43 x13 x15).f1) ((rd_T43 x13 x15).f2) ((rd_T43 x13 x15).f3)).bind fun t361 => (if t361 = true then (if x15 = 0 then (if ((rd_T43 x13 x15).f0) = (-1) then (if ((rd_T43 x13 x15).f1) = 0 then (if x15 > 0 then ((tree_Tree_forked.f k x0 x15).bind fun t362 => (if t362 = true then (tree_Tree_Right.l0 k x0 x13 x14 (wrap64 (x15 + 1))) else (some false))) else (tree_Tree_Right.l0 k x0 x13 x14 (wrap64 (x15 + 1)))) else (some false)) else (some false)) else (if x15 > 0 then ((tree_Tree_forked.f k x0 x15).bind fun t363 => (if t363 = true then (tree_Tree_Right.l0 k x0 x13 x14 (wrap64 (x15 + 1))) else (some false))) else (tree_Tree_Right.l0 k x0 x13 x14 (wrap64 (x15 + 1))))) else (some false))))) else (none)) else (none)) else (some true)
end
def tree_Tree_Right.f (k : Nat) (l0 : List (S43)) : Option (Bool) := if (l0.length : Int) = 0 then (tree_Tree_Right.j0 k l0 true) else (tree_Tree_Right.j0 k l0 (decide ((l0.length : Int) > 8)))
set_option maxHeartbeats 8000000 in
set_option maxRecDepth 100000 in
theorem tree_Tree_Right.calls (k : Nat) (A0 : Option Addr) (c0 : Nat) (l0 : List (S43)) (r : Bool) (w : World) (hr0 : Kd.C k43 w A0 l0.length l0) (hc0 : l0.length ≤ c0) (hL : Laid w) (h : tree_Tree_Right.f k l0 = some r) :
  Calls Tryd.prog 35 #[.slice A0 l0.length c0] w fun e w' => e = .returned (.bool r) ∧ Below w.heap.size w w' := by
 have hu43 := Tryd.underlying43
 have HR0 := Aside0.mk hr0
 have HC0 := Aside0.mk hc0
 clear hr0 hc0
 have HB := Aside0.mk (Below.refl w.heap.size w)
 have HLD := Aside0.mk hL
 clear hL
 have H : (if (l0.length : Int) = 0 then (tree_Tree_Right.j0 k l0 true) else (tree_Tree_Right.j0 k l0 (decide ((l0.length : Int) > 8)))) = some r := h
 clear h
 have HC2 := Aside0.mk H
 clear H
 go_enter Tryd.func35, Tryd.ntmps35
 go_upto_region 1 with (fail)
 go_cut [12] (fun v12 wc => ∃ (kq : Nat) (x12_1 : Bool), v12 = .bool x12_1 ∧ Aside0 (tree_Tree_Right.j0 kq l0 x12_1 = some r) ∧ Aside0 (kq ≤ k) ∧ Aside0 (Below w.heap.size w wc))
 case first =>
  have H := HC2.out
  clear HC2
  by_cases c3 : (l0.length : Int) = 0
  ·rw [if_pos c3] at H
   have c3b0 := beq_iff_eq.mpr c3
   have c3b1 := bne_eq_false_iff_eq.mpr c3
   clear c3
   (first | rw [c3b0] | (simp only [i64_w, i32_w]; rw [c3b0]) | skip)
   have H' := Aside0.mk H
   clear H
   go_wp2
   go_meet
   case rel => exact ⟨_, (true), qE, H', ⟨by first | omega | exact Nat.le_refl _⟩, ⟨qB⟩⟩
  rw [if_neg c3] at H
  have c3b0 := beq_eq_false_iff_ne.mpr c3
  have c3b1 := bne_iff_ne.mpr c3
  have c3b2 : ¬ (l0 = []) := fun h_ => c3 (by rw [h_]; rfl)
  (first | rw [c3b0] | (simp only [i64_w, i32_w]; rw [c3b0]) | skip)
  have H' := Aside0.mk H
  clear H
  go_wp2
  go_meet
  case rel => exact ⟨_, (decide ((l0.length : Int) > 8)), qE, H', ⟨by first | omega | exact Nat.le_refl _⟩, ⟨qB⟩⟩
 case rest =>
  clear HC2
  try clear p2
  obtain ⟨kq, x12_1, rfl, HA, HJ1, HB⟩ := hcut
  cases kq with
  | zero => exact absurd HA.out (by simp [tree_Tree_Right.j0])
  | succ kj1 =>
   have H := HA.out
   clear HA
   simp only [tree_Tree_Right.j0] at H
   by_cases c4 : x12_1 = true
   ·subst c4
    rw [if_pos rfl] at H
    obtain rfl := Option.some.inj H
    go_wp2
    go_ret
    exact ⟨qR, qB⟩
   replace c4 := Bool.eq_false_iff.mpr c4
   subst c4
   rw [if_neg (show ¬ (false = true) by decide)] at H
   have H' := Aside0.mk H
   clear H
   go_wp2
   go_loopg [15] kj1 (fun kq v15 w' => ∃ (x15_2 : Int), v15 = .int .i64 x15_2 ∧ Aside0 (tree_Tree_Right.l0 kq l0 l0 (l0.length : Int) x15_2 = some r) ∧ Aside0 (kq ≤ kj1) ∧ Aside0 (Below w.heap.size w w'))
   case atStart => exact ⟨(0), qE, H', ⟨Nat.le_refl _⟩, ⟨qB⟩⟩
   case round =>
    clear H'
    try clear p2 p2
    obtain ⟨x15_2, rfl, HA, HK2, HB⟩ := hrel
    cases gk with
    | zero => exact absurd HA.out (by simp [tree_Tree_Right.l0])
    | succ k2 =>
     have H := HA.out; clear HA; simp only [tree_Tree_Right.l0] at H; replace H := iD H
     rcases H with ⟨c5b0, H⟩ | ⟨c5b0, H⟩
     ·by_cases c6 : 0 ≤ x15_2
      ·rw [if_pos c6] at H; have c6b0 := decide_eq_true c6; clear c6; replace H := iD H
       rcases H with ⟨c7b0, H⟩ | ⟨c7b0, H⟩
       ·by_cases c8 : ((rd_T43 l0 x15_2).f2) < 0
        ·rw [if_pos c8] at H; have c8b0 := decide_eq_true c8; clear c8; obtain rfl := Option.some.inj H; have p359 : 0 ≤ (x15_2 : Int) := qD; have q359 : x15_2 < (l0.length : Int) := qD; obtain ⟨ad359, A359_3, c359_3, e359, hx359_0, hx359_1, hx359_2, hx359_3, hl359_3, hi359_3⟩ := at_T43 HR0.out x15_2 p359 q359; cases e359; replace hx359_0 := pw_cell_below HB.out hx359_0; replace hx359_1 := pw_cell_below HB.out hx359_1; replace hx359_2 := pw_cell_below HB.out hx359_2; replace hx359_3 := pw_cell_below HB.out hx359_3; have HR359_3 := Aside0.mk hi359_3; have HC359_3 := Aside0.mk hl359_3; clear hi359_3 hl359_3; replace p359 := eq_true p359; replace q359 := eq_true q359
         go_wp2_with (first | ((with_reducible refine gate_dst (N := 4) rfl ?_); (try (refine gate_guard (by rfl) ?_; dsimp only)); refine box_event ?hg (N := 4) ?hd (cs := #[.int .i64 0, .int .i64 0, .int .i64 0, .slice none 0 0]) (t := 43) ?hr ?_; (case hd => rfl); (case hg => rfl); (case hr => first | (go_simp; done) | (go_simp; rfl)); intro gb360 hg w9 hbox hb; have BK360 := Aside0.mk (hbox); have GW360 := geS hg; have GE360 := geS hg; replace HB := bst hb; clear hb hbox hg; obtain ⟨_, _, _, _, _, _, _, _⟩ := cells4 BK360.out))
         go_ret; exact ⟨qR, qB⟩
        rw [if_neg c8] at H; have c8b0 := decide_eq_false c8; clear c8; replace H := iD H
        rcases H with ⟨c11b0, H⟩ | ⟨c11b0, H⟩
        ·obtain rfl := Option.some.inj H; have p359 : 0 ≤ (x15_2 : Int) := qD; have q359 : x15_2 < (l0.length : Int) := qD; obtain ⟨ad359, A359_3, c359_3, e359, hx359_0, hx359_1, hx359_2, hx359_3, hl359_3, hi359_3⟩ := at_T43 HR0.out x15_2 p359 q359; cases e359; replace hx359_0 := pw_cell_below HB.out hx359_0; replace hx359_1 := pw_cell_below HB.out hx359_1; replace hx359_2 := pw_cell_below HB.out hx359_2; replace hx359_3 := pw_cell_below HB.out hx359_3; have HR359_3 := Aside0.mk hi359_3; have HC359_3 := Aside0.mk hl359_3; clear hi359_3 hl359_3; replace p359 := eq_true p359; replace q359 := eq_true q359
         go_wp2_with (first | ((with_reducible refine gate_dst (N := 4) rfl ?_); (try (refine gate_guard (by rfl) ?_; dsimp only)); refine box_event ?hg (N := 4) ?hd (cs := #[.int .i64 0, .int .i64 0, .int .i64 0, .slice none 0 0]) (t := 43) ?hr ?_; (case hd => rfl); (case hg => rfl); (case hr => first | (go_simp; done) | (go_simp; rfl)); intro gb360 hg w12 hbox hb; have BK360 := Aside0.mk (hbox); have GW360 := geS hg; have GE360 := geS hg; replace HB := bst hb; clear hb hbox hg; obtain ⟨_, _, _, _, _, _, _, _⟩ := cells4 BK360.out))
         go_ret; exact ⟨qR, qB⟩
        replace H := Option.bind_eq_some_iff.mp H; obtain ⟨t361, A140, H⟩ := H; (try dsimp -simprocs only at H); have A14 := Aside0.mk A140; clear A140
        by_cases c15 : t361 = true
        ·subst c15; rw [if_pos rfl] at H
         by_cases c16 : x15_2 = 0
         ·rw [if_pos c16] at H; have c16b0 := beq_iff_eq.mpr c16; have c16b1 := bne_eq_false_iff_eq.mpr c16; clear c16
          by_cases c17 : ((rd_T43 l0 x15_2).f0) = (-1)
          ·rw [if_pos c17] at H; have c17b0 := beq_iff_eq.mpr c17; have c17b1 := bne_eq_false_iff_eq.mpr c17; clear c17
           by_cases c18 : ((rd_T43 l0 x15_2).f1) = 0
           ·rw [if_pos c18] at H; have c18b0 := beq_iff_eq.mpr c18; have c18b1 := bne_eq_false_iff_eq.mpr c18; clear c18; replace H := iD H
            rcases H with ⟨c19b0, H⟩ | ⟨c19b0, H⟩
            ·replace H := Option.bind_eq_some_iff.mp H; obtain ⟨t362, A200, H⟩ := H; (try dsimp -simprocs only at H); have A20 := Aside0.mk A200; clear A200
             by_cases c21 : t362 = true
             ·subst c21; rw [if_pos rfl] at H; have H' := Aside0.mk H; clear H; have p359 : 0 ≤ (x15_2 : Int) := qD; have q359 : x15_2 < (l0.length : Int) := qD; obtain ⟨ad359, A359_3, c359_3, e359, hx359_0, hx359_1, hx359_2, hx359_3, hl359_3, hi359_3⟩ := at_T43 HR0.out x15_2 p359 q359; cases e359; replace hx359_0 := pw_cell_below HB.out hx359_0; replace hx359_1 := pw_cell_below HB.out hx359_1; replace hx359_2 := pw_cell_below HB.out hx359_2; replace hx359_3 := pw_cell_below HB.out hx359_3; have HR359_3 := Aside0.mk hi359_3; have HC359_3 := Aside0.mk hl359_3; clear hi359_3 hl359_3; replace p359 := eq_true p359; replace q359 := eq_true q359
              go_wp2_with (first | ((with_reducible refine gate_dst (N := 4) rfl ?_); (try (refine gate_guard (by rfl) ?_; dsimp only)); refine box_event ?hg (N := 4) ?hd (cs := #[.int .i64 0, .int .i64 0, .int .i64 0, .slice none 0 0]) (t := 43) ?hr ?_; (case hd => rfl); (case hg => rfl); (case hr => first | (go_simp; done) | (go_simp; rfl)); intro gb360 hg w22 hbox hb; have BK360 := Aside0.mk (hbox); have GW360 := geS hg; have GE360 := geS hg; replace HB := bst hb; clear hb hbox hg; obtain ⟨_, _, _, _, _, _, _, _⟩ := cells4 BK360.out) | (go_at_call 77; (with_reducible refine (tree_Branch_rising.calls k2 ((rd_T43 l0 x15_2).f0) ((rd_T43 l0 x15_2).f1) ((rd_T43 l0 x15_2).f2) _ _ ((rd_T43 l0 x15_2).f3) true _ ?side1 ?side2 ?side3 A14.out).mono ?_); (case side1 => exact Kd.C_below HR359_3.out qB); (case side2 => exact HC359_3.out); (case side3 => exact Laid.below HLD.out qB); rintro e w24 ⟨rfl, hb⟩; replace BK360 := kp gb360 (.cells #[.int .i64 ((rd_T43 l0 x15_2).f0), .int .i64 ((rd_T43 l0 x15_2).f1), .int .i64 ((rd_T43 l0 x15_2).f2), .slice A359_3 ((rd_T43 l0 x15_2).f3).length c359_3] 43 (0, 0)) hb; replace HB := bst hb; (try clear hb); obtain ⟨_, _, _, _, _, _, _, _⟩ := cells4 BK360.out) | (go_at_call 78; (with_reducible refine (tree_Tree_forked.calls k2 _ _ l0 x15_2 true _ ?side1 ?side2 A20.out).mono ?_); (case side1 => exact qC); (case side2 => exact HC0.out); rintro e w26 ⟨rfl, hb⟩; replace BK360 := kb gb360 hb; replace HB := bst hb; (try clear hb)))
              go_roundg k2
              case measure => have := HJ1.out; have := HK2.out; omega
              case rel => exact ⟨(wrap64 (x15_2 + 1)), qE, H', ⟨by have := HJ1.out; have := HK2.out; omega⟩, ⟨qB⟩⟩
             replace c21 := Bool.eq_false_iff.mpr c21; subst c21; rw [if_neg (show ¬ (false = true) by decide)] at H; obtain rfl := Option.some.inj H; have p359 : 0 ≤ (x15_2 : Int) := qD; have q359 : x15_2 < (l0.length : Int) := qD; obtain ⟨ad359, A359_3, c359_3, e359, hx359_0, hx359_1, hx359_2, hx359_3, hl359_3, hi359_3⟩ := at_T43 HR0.out x15_2 p359 q359; cases e359; replace hx359_0 := pw_cell_below HB.out hx359_0; replace hx359_1 := pw_cell_below HB.out hx359_1; replace hx359_2 := pw_cell_below HB.out hx359_2; replace hx359_3 := pw_cell_below HB.out hx359_3; have HR359_3 := Aside0.mk hi359_3; have HC359_3 := Aside0.mk hl359_3; clear hi359_3 hl359_3; replace p359 := eq_true p359; replace q359 := eq_true q359
             go_wp2_with (first | ((with_reducible refine gate_dst (N := 4) rfl ?_); (try (refine gate_guard (by rfl) ?_; dsimp only)); refine box_event ?hg (N := 4) ?hd (cs := #[.int .i64 0, .int .i64 0, .int .i64 0, .slice none 0 0]) (t := 43) ?hr ?_; (case hd => rfl); (case hg => rfl); (case hr => first | (go_simp; done) | (go_simp; rfl)); intro gb360 hg w27 hbox hb; have BK360 := Aside0.mk (hbox); have GW360 := geS hg; have GE360 := geS hg; replace HB := bst hb; clear hb hbox hg; obtain ⟨_, _, _, _, _, _, _, _⟩ := cells4 BK360.out) | (go_at_call 77; (with_reducible refine (tree_Branch_rising.calls k2 ((rd_T43 l0 x15_2).f0) ((rd_T43 l0 x15_2).f1) ((rd_T43 l0 x15_2).f2) _ _ ((rd_T43 l0 x15_2).f3) true _ ?side1 ?side2 ?side3 A14.out).mono ?_); (case side1 => exact Kd.C_below HR359_3.out qB); (case side2 => exact HC359_3.out); (case side3 => exact Laid.below HLD.out qB); rintro e w29 ⟨rfl, hb⟩; replace BK360 := kp gb360 (.cells #[.int .i64 ((rd_T43 l0 x15_2).f0), .int .i64 ((rd_T43 l0 x15_2).f1), .int .i64 ((rd_T43 l0 x15_2).f2), .slice A359_3 ((rd_T43 l0 x15_2).f3).length c359_3] 43 (0, 0)) hb; replace HB := bst hb; (try clear hb); obtain ⟨_, _, _, _, _, _, _, _⟩ := cells4 BK360.out) | (go_at_call 78; (with_reducible refine (tree_Tree_forked.calls k2 _ _ l0 x15_2 false _ ?side1 ?side2 A20.out).mono ?_); (case side1 => exact qC); (case side2 => exact HC0.out); rintro e w31 ⟨rfl, hb⟩; replace BK360 := kb gb360 hb; replace HB := bst hb; (try clear hb)))
             go_ret; exact ⟨qR, qB⟩
            have H' := Aside0.mk H; clear H; have p359 : 0 ≤ (x15_2 : Int) := qD; have q359 : x15_2 < (l0.length : Int) := qD; obtain ⟨ad359, A359_3, c359_3, e359, hx359_0, hx359_1, hx359_2, hx359_3, hl359_3, hi359_3⟩ := at_T43 HR0.out x15_2 p359 q359; cases e359; replace hx359_0 := pw_cell_below HB.out hx359_0; replace hx359_1 := pw_cell_below HB.out hx359_1; replace hx359_2 := pw_cell_below HB.out hx359_2; replace hx359_3 := pw_cell_below HB.out hx359_3; have HR359_3 := Aside0.mk hi359_3; have HC359_3 := Aside0.mk hl359_3; clear hi359_3 hl359_3; replace p359 := eq_true p359; replace q359 := eq_true q359
            go_wp2_with (first | ((with_reducible refine gate_dst (N := 4) rfl ?_); (try (refine gate_guard (by rfl) ?_; dsimp only)); refine box_event ?hg (N := 4) ?hd (cs := #[.int .i64 0, .int .i64 0, .int .i64 0, .slice none 0 0]) (t := 43) ?hr ?_; (case hd => rfl); (case hg => rfl); (case hr => first | (go_simp; done) | (go_simp; rfl)); intro gb360 hg w32 hbox hb; have BK360 := Aside0.mk (hbox); have GW360 := geS hg; have GE360 := geS hg; replace HB := bst hb; clear hb hbox hg; obtain ⟨_, _, _, _, _, _, _, _⟩ := cells4 BK360.out) | (go_at_call 77; (with_reducible refine (tree_Branch_rising.calls k2 ((rd_T43 l0 x15_2).f0) ((rd_T43 l0 x15_2).f1) ((rd_T43 l0 x15_2).f2) _ _ ((rd_T43 l0 x15_2).f3) true _ ?side1 ?side2 ?side3 A14.out).mono ?_); (case side1 => exact Kd.C_below HR359_3.out qB); (case side2 => exact HC359_3.out); (case side3 => exact Laid.below HLD.out qB); rintro e w34 ⟨rfl, hb⟩; replace BK360 := kp gb360 (.cells #[.int .i64 ((rd_T43 l0 x15_2).f0), .int .i64 ((rd_T43 l0 x15_2).f1), .int .i64 ((rd_T43 l0 x15_2).f2), .slice A359_3 ((rd_T43 l0 x15_2).f3).length c359_3] 43 (0, 0)) hb; replace HB := bst hb; (try clear hb); obtain ⟨_, _, _, _, _, _, _, _⟩ := cells4 BK360.out))
            go_roundg k2
            case measure => have := HJ1.out; have := HK2.out; omega
            case rel => exact ⟨(wrap64 (x15_2 + 1)), qE, H', ⟨by have := HJ1.out; have := HK2.out; omega⟩, ⟨qB⟩⟩
           rw [if_neg c18] at H; have c18b0 := beq_eq_false_iff_ne.mpr c18; have c18b1 := bne_iff_ne.mpr c18; obtain rfl := Option.some.inj H; have p359 : 0 ≤ (x15_2 : Int) := qD; have q359 : x15_2 < (l0.length : Int) := qD; obtain ⟨ad359, A359_3, c359_3, e359, hx359_0, hx359_1, hx359_2, hx359_3, hl359_3, hi359_3⟩ := at_T43 HR0.out x15_2 p359 q359; cases e359; replace hx359_0 := pw_cell_below HB.out hx359_0; replace hx359_1 := pw_cell_below HB.out hx359_1; replace hx359_2 := pw_cell_below HB.out hx359_2; replace hx359_3 := pw_cell_below HB.out hx359_3; have HR359_3 := Aside0.mk hi359_3; have HC359_3 := Aside0.mk hl359_3; clear hi359_3 hl359_3; replace p359 := eq_true p359; replace q359 := eq_true q359
           go_wp2_with (first | ((with_reducible refine gate_dst (N := 4) rfl ?_); (try (refine gate_guard (by rfl) ?_; dsimp only)); refine box_event ?hg (N := 4) ?hd (cs := #[.int .i64 0, .int .i64 0, .int .i64 0, .slice none 0 0]) (t := 43) ?hr ?_; (case hd => rfl); (case hg => rfl); (case hr => first | (go_simp; done) | (go_simp; rfl)); intro gb360 hg w36 hbox hb; have BK360 := Aside0.mk (hbox); have GW360 := geS hg; have GE360 := geS hg; replace HB := bst hb; clear hb hbox hg; obtain ⟨_, _, _, _, _, _, _, _⟩ := cells4 BK360.out) | (go_at_call 77; (with_reducible refine (tree_Branch_rising.calls k2 ((rd_T43 l0 x15_2).f0) ((rd_T43 l0 x15_2).f1) ((rd_T43 l0 x15_2).f2) _ _ ((rd_T43 l0 x15_2).f3) true _ ?side1 ?side2 ?side3 A14.out).mono ?_); (case side1 => exact Kd.C_below HR359_3.out qB); (case side2 => exact HC359_3.out); (case side3 => exact Laid.below HLD.out qB); rintro e w38 ⟨rfl, hb⟩; replace BK360 := kp gb360 (.cells #[.int .i64 ((rd_T43 l0 x15_2).f0), .int .i64 ((rd_T43 l0 x15_2).f1), .int .i64 ((rd_T43 l0 x15_2).f2), .slice A359_3 ((rd_T43 l0 x15_2).f3).length c359_3] 43 (0, 0)) hb; replace HB := bst hb; (try clear hb); obtain ⟨_, _, _, _, _, _, _, _⟩ := cells4 BK360.out))
           go_ret; exact ⟨qR, qB⟩
          rw [if_neg c17] at H; have c17b0 := beq_eq_false_iff_ne.mpr c17; have c17b1 := bne_iff_ne.mpr c17; obtain rfl := Option.some.inj H; have p359 : 0 ≤ (x15_2 : Int) := qD; have q359 : x15_2 < (l0.length : Int) := qD; obtain ⟨ad359, A359_3, c359_3, e359, hx359_0, hx359_1, hx359_2, hx359_3, hl359_3, hi359_3⟩ := at_T43 HR0.out x15_2 p359 q359; cases e359; replace hx359_0 := pw_cell_below HB.out hx359_0; replace hx359_1 := pw_cell_below HB.out hx359_1; replace hx359_2 := pw_cell_below HB.out hx359_2; replace hx359_3 := pw_cell_below HB.out hx359_3; have HR359_3 := Aside0.mk hi359_3; have HC359_3 := Aside0.mk hl359_3; clear hi359_3 hl359_3; replace p359 := eq_true p359; replace q359 := eq_true q359
          go_wp2_with (first | ((with_reducible refine gate_dst (N := 4) rfl ?_); (try (refine gate_guard (by rfl) ?_; dsimp only)); refine box_event ?hg (N := 4) ?hd (cs := #[.int .i64 0, .int .i64 0, .int .i64 0, .slice none 0 0]) (t := 43) ?hr ?_; (case hd => rfl); (case hg => rfl); (case hr => first | (go_simp; done) | (go_simp; rfl)); intro gb360 hg w40 hbox hb; have BK360 := Aside0.mk (hbox); have GW360 := geS hg; have GE360 := geS hg; replace HB := bst hb; clear hb hbox hg; obtain ⟨_, _, _, _, _, _, _, _⟩ := cells4 BK360.out) | (go_at_call 77; (with_reducible refine (tree_Branch_rising.calls k2 ((rd_T43 l0 x15_2).f0) ((rd_T43 l0 x15_2).f1) ((rd_T43 l0 x15_2).f2) _ _ ((rd_T43 l0 x15_2).f3) true _ ?side1 ?side2 ?side3 A14.out).mono ?_); (case side1 => exact Kd.C_below HR359_3.out qB); (case side2 => exact HC359_3.out); (case side3 => exact Laid.below HLD.out qB); rintro e w42 ⟨rfl, hb⟩; replace BK360 := kp gb360 (.cells #[.int .i64 ((rd_T43 l0 x15_2).f0), .int .i64 ((rd_T43 l0 x15_2).f1), .int .i64 ((rd_T43 l0 x15_2).f2), .slice A359_3 ((rd_T43 l0 x15_2).f3).length c359_3] 43 (0, 0)) hb; replace HB := bst hb; (try clear hb); obtain ⟨_, _, _, _, _, _, _, _⟩ := cells4 BK360.out))
          go_ret; exact ⟨qR, qB⟩
         rw [if_neg c16] at H; have c16b0 := beq_eq_false_iff_ne.mpr c16; have c16b1 := bne_iff_ne.mpr c16; replace H := iD H
         rcases H with ⟨c44b0, H⟩ | ⟨c44b0, H⟩
         ·replace H := Option.bind_eq_some_iff.mp H; obtain ⟨t363, A450, H⟩ := H; (try dsimp -simprocs only at H); have A45 := Aside0.mk A450; clear A450
          by_cases c46 : t363 = true
          ·subst c46; rw [if_pos rfl] at H; have H' := Aside0.mk H; clear H; have p359 : 0 ≤ (x15_2 : Int) := qD; have q359 : x15_2 < (l0.length : Int) := qD; obtain ⟨ad359, A359_3, c359_3, e359, hx359_0, hx359_1, hx359_2, hx359_3, hl359_3, hi359_3⟩ := at_T43 HR0.out x15_2 p359 q359; cases e359; replace hx359_0 := pw_cell_below HB.out hx359_0; replace hx359_1 := pw_cell_below HB.out hx359_1; replace hx359_2 := pw_cell_below HB.out hx359_2; replace hx359_3 := pw_cell_below HB.out hx359_3; have HR359_3 := Aside0.mk hi359_3; have HC359_3 := Aside0.mk hl359_3; clear hi359_3 hl359_3; replace p359 := eq_true p359; replace q359 := eq_true q359
           go_wp2_with (first | ((with_reducible refine gate_dst (N := 4) rfl ?_); (try (refine gate_guard (by rfl) ?_; dsimp only)); refine box_event ?hg (N := 4) ?hd (cs := #[.int .i64 0, .int .i64 0, .int .i64 0, .slice none 0 0]) (t := 43) ?hr ?_; (case hd => rfl); (case hg => rfl); (case hr => first | (go_simp; done) | (go_simp; rfl)); intro gb360 hg w47 hbox hb; have BK360 := Aside0.mk (hbox); have GW360 := geS hg; have GE360 := geS hg; replace HB := bst hb; clear hb hbox hg; obtain ⟨_, _, _, _, _, _, _, _⟩ := cells4 BK360.out) | (go_at_call 77; (with_reducible refine (tree_Branch_rising.calls k2 ((rd_T43 l0 x15_2).f0) ((rd_T43 l0 x15_2).f1) ((rd_T43 l0 x15_2).f2) _ _ ((rd_T43 l0 x15_2).f3) true _ ?side1 ?side2 ?side3 A14.out).mono ?_); (case side1 => exact Kd.C_below HR359_3.out qB); (case side2 => exact HC359_3.out); (case side3 => exact Laid.below HLD.out qB); rintro e w49 ⟨rfl, hb⟩; replace BK360 := kp gb360 (.cells #[.int .i64 ((rd_T43 l0 x15_2).f0), .int .i64 ((rd_T43 l0 x15_2).f1), .int .i64 ((rd_T43 l0 x15_2).f2), .slice A359_3 ((rd_T43 l0 x15_2).f3).length c359_3] 43 (0, 0)) hb; replace HB := bst hb; (try clear hb)) | (go_at_call 78; (with_reducible refine (tree_Tree_forked.calls k2 _ _ l0 x15_2 true _ ?side1 ?side2 A45.out).mono ?_); (case side1 => exact qC); (case side2 => exact HC0.out); rintro e w50 ⟨rfl, hb⟩; replace BK360 := kb gb360 hb; replace HB := bst hb; (try clear hb)))
           go_roundg k2
           case measure => have := HJ1.out; have := HK2.out; omega
           case rel => exact ⟨(wrap64 (x15_2 + 1)), qE, H', ⟨by have := HJ1.out; have := HK2.out; omega⟩, ⟨qB⟩⟩
          replace c46 := Bool.eq_false_iff.mpr c46; subst c46; rw [if_neg (show ¬ (false = true) by decide)] at H; obtain rfl := Option.some.inj H; have p359 : 0 ≤ (x15_2 : Int) := qD; have q359 : x15_2 < (l0.length : Int) := qD; obtain ⟨ad359, A359_3, c359_3, e359, hx359_0, hx359_1, hx359_2, hx359_3, hl359_3, hi359_3⟩ := at_T43 HR0.out x15_2 p359 q359; cases e359; replace hx359_0 := pw_cell_below HB.out hx359_0; replace hx359_1 := pw_cell_below HB.out hx359_1; replace hx359_2 := pw_cell_below HB.out hx359_2; replace hx359_3 := pw_cell_below HB.out hx359_3; have HR359_3 := Aside0.mk hi359_3; have HC359_3 := Aside0.mk hl359_3; clear hi359_3 hl359_3; replace p359 := eq_true p359; replace q359 := eq_true q359
          go_wp2_with (first | ((with_reducible refine gate_dst (N := 4) rfl ?_); (try (refine gate_guard (by rfl) ?_; dsimp only)); refine box_event ?hg (N := 4) ?hd (cs := #[.int .i64 0, .int .i64 0, .int .i64 0, .slice none 0 0]) (t := 43) ?hr ?_; (case hd => rfl); (case hg => rfl); (case hr => first | (go_simp; done) | (go_simp; rfl)); intro gb360 hg w51 hbox hb; have BK360 := Aside0.mk (hbox); have GW360 := geS hg; have GE360 := geS hg; replace HB := bst hb; clear hb hbox hg; obtain ⟨_, _, _, _, _, _, _, _⟩ := cells4 BK360.out) | (go_at_call 77; (with_reducible refine (tree_Branch_rising.calls k2 ((rd_T43 l0 x15_2).f0) ((rd_T43 l0 x15_2).f1) ((rd_T43 l0 x15_2).f2) _ _ ((rd_T43 l0 x15_2).f3) true _ ?side1 ?side2 ?side3 A14.out).mono ?_); (case side1 => exact Kd.C_below HR359_3.out qB); (case side2 => exact HC359_3.out); (case side3 => exact Laid.below HLD.out qB); rintro e w53 ⟨rfl, hb⟩; replace BK360 := kp gb360 (.cells #[.int .i64 ((rd_T43 l0 x15_2).f0), .int .i64 ((rd_T43 l0 x15_2).f1), .int .i64 ((rd_T43 l0 x15_2).f2), .slice A359_3 ((rd_T43 l0 x15_2).f3).length c359_3] 43 (0, 0)) hb; replace HB := bst hb; (try clear hb)) | (go_at_call 78; (with_reducible refine (tree_Tree_forked.calls k2 _ _ l0 x15_2 false _ ?side1 ?side2 A45.out).mono ?_); (case side1 => exact qC); (case side2 => exact HC0.out); rintro e w54 ⟨rfl, hb⟩; replace BK360 := kb gb360 hb; replace HB := bst hb; (try clear hb)))
          go_ret; exact ⟨qR, qB⟩
         have H' := Aside0.mk H; clear H; have p359 : 0 ≤ (x15_2 : Int) := qD; have q359 : x15_2 < (l0.length : Int) := qD; obtain ⟨ad359, A359_3, c359_3, e359, hx359_0, hx359_1, hx359_2, hx359_3, hl359_3, hi359_3⟩ := at_T43 HR0.out x15_2 p359 q359; cases e359; replace hx359_0 := pw_cell_below HB.out hx359_0; replace hx359_1 := pw_cell_below HB.out hx359_1; replace hx359_2 := pw_cell_below HB.out hx359_2; replace hx359_3 := pw_cell_below HB.out hx359_3; have HR359_3 := Aside0.mk hi359_3; have HC359_3 := Aside0.mk hl359_3; clear hi359_3 hl359_3; replace p359 := eq_true p359; replace q359 := eq_true q359
         go_wp2_with (first | ((with_reducible refine gate_dst (N := 4) rfl ?_); (try (refine gate_guard (by rfl) ?_; dsimp only)); refine box_event ?hg (N := 4) ?hd (cs := #[.int .i64 0, .int .i64 0, .int .i64 0, .slice none 0 0]) (t := 43) ?hr ?_; (case hd => rfl); (case hg => rfl); (case hr => first | (go_simp; done) | (go_simp; rfl)); intro gb360 hg w55 hbox hb; have BK360 := Aside0.mk (hbox); have GW360 := geS hg; have GE360 := geS hg; replace HB := bst hb; clear hb hbox hg; obtain ⟨_, _, _, _, _, _, _, _⟩ := cells4 BK360.out) | (go_at_call 77; (with_reducible refine (tree_Branch_rising.calls k2 ((rd_T43 l0 x15_2).f0) ((rd_T43 l0 x15_2).f1) ((rd_T43 l0 x15_2).f2) _ _ ((rd_T43 l0 x15_2).f3) true _ ?side1 ?side2 ?side3 A14.out).mono ?_); (case side1 => exact Kd.C_below HR359_3.out qB); (case side2 => exact HC359_3.out); (case side3 => exact Laid.below HLD.out qB); rintro e w57 ⟨rfl, hb⟩; replace BK360 := kp gb360 (.cells #[.int .i64 ((rd_T43 l0 x15_2).f0), .int .i64 ((rd_T43 l0 x15_2).f1), .int .i64 ((rd_T43 l0 x15_2).f2), .slice A359_3 ((rd_T43 l0 x15_2).f3).length c359_3] 43 (0, 0)) hb; replace HB := bst hb; (try clear hb)))
         go_roundg k2
         case measure => have := HJ1.out; have := HK2.out; omega
         case rel => exact ⟨(wrap64 (x15_2 + 1)), qE, H', ⟨by have := HJ1.out; have := HK2.out; omega⟩, ⟨qB⟩⟩
        replace c15 := Bool.eq_false_iff.mpr c15; subst c15; rw [if_neg (show ¬ (false = true) by decide)] at H; obtain rfl := Option.some.inj H; have p359 : 0 ≤ (x15_2 : Int) := qD; have q359 : x15_2 < (l0.length : Int) := qD; obtain ⟨ad359, A359_3, c359_3, e359, hx359_0, hx359_1, hx359_2, hx359_3, hl359_3, hi359_3⟩ := at_T43 HR0.out x15_2 p359 q359; cases e359; replace hx359_0 := pw_cell_below HB.out hx359_0; replace hx359_1 := pw_cell_below HB.out hx359_1; replace hx359_2 := pw_cell_below HB.out hx359_2; replace hx359_3 := pw_cell_below HB.out hx359_3; have HR359_3 := Aside0.mk hi359_3; have HC359_3 := Aside0.mk hl359_3; clear hi359_3 hl359_3; replace p359 := eq_true p359; replace q359 := eq_true q359
        go_wp2_with (first | ((with_reducible refine gate_dst (N := 4) rfl ?_); (try (refine gate_guard (by rfl) ?_; dsimp only)); refine box_event ?hg (N := 4) ?hd (cs := #[.int .i64 0, .int .i64 0, .int .i64 0, .slice none 0 0]) (t := 43) ?hr ?_; (case hd => rfl); (case hg => rfl); (case hr => first | (go_simp; done) | (go_simp; rfl)); intro gb360 hg w58 hbox hb; have BK360 := Aside0.mk (hbox); have GW360 := geS hg; have GE360 := geS hg; replace HB := bst hb; clear hb hbox hg; obtain ⟨_, _, _, _, _, _, _, _⟩ := cells4 BK360.out) | (go_at_call 77; (with_reducible refine (tree_Branch_rising.calls k2 ((rd_T43 l0 x15_2).f0) ((rd_T43 l0 x15_2).f1) ((rd_T43 l0 x15_2).f2) _ _ ((rd_T43 l0 x15_2).f3) false _ ?side1 ?side2 ?side3 A14.out).mono ?_); (case side1 => exact Kd.C_below HR359_3.out qB); (case side2 => exact HC359_3.out); (case side3 => exact Laid.below HLD.out qB); rintro e w60 ⟨rfl, hb⟩; replace BK360 := kp gb360 (.cells #[.int .i64 ((rd_T43 l0 x15_2).f0), .int .i64 ((rd_T43 l0 x15_2).f1), .int .i64 ((rd_T43 l0 x15_2).f2), .slice A359_3 ((rd_T43 l0 x15_2).f3).length c359_3] 43 (0, 0)) hb; replace HB := bst hb; (try clear hb)))
        go_ret; exact ⟨qR, qB⟩
       exact absurd H (by simp)
      rw [if_neg c6] at H; exact absurd H (by simp)
     obtain rfl := Option.some.inj H
     go_wp2
     go_ret; exact ⟨qR, qB⟩
end Go.Proofs.YtbngfhlciebeeaaDoor.L
end
section
namespace Go.Proofs.YtbngfhlciebeeaaDoor.L
set_option linter.unusedVariables false
open Go.RowKit Go.Proofs.YtbngfhlciebeeaaDoorW.PrintWords Go.Proofs.YtbngfhlciebeeaaDoorW.PrintLast Go.Proofs.YtbngfhlciebeeaaDoorW.PrintMore
theorem more_ {P : Program} {md : Region.Mode} {ops : Array Oper} {Q : Exit → Act → World → Prop} {S S2 : World → Prop} (hsub : ∀ w, S2 w → S w) : ∀ (n : Nat) (l : Array Bool) (a : Act) (w : World), S2 w →
    wpAnyLast P md ops Q S2 [] n l a w → wpAnyLast P md ops Q S [] n l a w
  | 0, l, a, w, _, h => h
  | n + 1, l, a, w, hS, h => ⟨h.1, fun i hi => wpOp_mono (fun a' w' h3 => ⟨fun _ _ => hsub _ (h3.1 (by simp) hS), more_ hsub n _ a' w' (h3.1 (by simp) hS) h3.2⟩) (h.2 i hi)⟩
end Go.Proofs.YtbngfhlciebeeaaDoor.L
end
