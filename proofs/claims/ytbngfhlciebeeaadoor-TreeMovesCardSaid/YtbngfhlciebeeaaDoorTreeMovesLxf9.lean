/- Printed and hand-written steps towards the row (TreeMoves), those that it reaches. -/
import Derived.Test.YtbngfhlciebeeaaDoorTreeMovesG4
import Derived.Test.YtbngfhlciebeeaaDoorTreeMovesG23
import Derived.Test.YtbngfhlciebeeaaDoorTreeMovesG16
import Derived.Test.YtbngfhlciebeeaaDoorTreeMovesG19
import Derived.Test.YtbngfhlciebeeaaDoorTreeMovesG20
import Derived.Test.YtbngfhlciebeeaaDoorTreeMovesLxf41
import Derived.Test.YtbngfhlciebeeaaDoorTreeMovesLxf32
import Derived.Test.YtbngfhlciebeeaaDoorTreeMovesLxf36
import Derived.Test.YtbngfhlciebeeaaDoorTreeMovesG25
import Derived.Test.YtbngfhlciebeeaaDoorTreeMovesG26
import Derived.Test.YtbngfhlciebeeaaDoorTreeMovesG17
namespace Go.Proofs.YtbngfhlciebeeaaDoor.L
open Go.RowKit Go.Proofs.YtbngfhlciebeeaaDoorW.PrintWords Go.Proofs.YtbngfhlciebeeaaDoorW.PrintLast Go.Proofs.YtbngfhlciebeeaaDoorW.PrintMore
attribute [local go_sem] max2_int min2_int max_two min_two max_three min_three max_four min_four   -- for this text's walks alone
set_option linter.unusedVariables false
set_option linter.unusedSimpArgs false
attribute [local go_sem high] eqA45 eqA47
mutual
def whirligiglaw22_TreeMoves.l0 : Nat → Int → Int → Int → List (S43) → List (S56) → Int → Int → Option (Bool)
 | 0, _, _, _, _, _, _, _ => none
 | k + 1, x1, x2, x3, x9, x23, x24, x25 => if x25 < x24 then (if 0 ≤ x25 then (if x25 < (x23.length : Int) then (if ((rd_T56 x23 x25).f0) = 1 then ((tree_Tree_Grow.f x9 ((rd_T56 x23 x25).f1)).bind fun bt521 => (whirligiglaw22_TreeMoves.l0 k x1 x2 x3 bt521.1 x23 x24 (wrap64 (x25 + 1)))) else (if ((rd_T56 x23 x25).f0) = 2 then ((tree_Tree_Put.f k x9 ((rd_T56 x23 x25).f1) ((rd_T56 x23 x25).f2) ((rd_T56 x23 x25).f3.f0) ((rd_T56 x23 x25).f3.f1) ((rd_T56 x23 x25).f3.f2) ((rd_T56 x23 x25).f3.f3)).bind fun bt525 => (whirligiglaw22_TreeMoves.l0 k x1 x2 x3 bt525.1 x23 x24 (wrap64 (x25 + 1)))) else (whirligiglaw22_TreeMoves.l0 k x1 x2 x3 x9 x23 x24 (wrap64 (x25 + 1))))) else (none)) else (none)) else ((whirligiglaw22_refs.f k x9).bind fun t530 => ((whirligigref22_Right.f k t530).bind fun t533 => (if t533 = true then ((tree_Tree_Input.f x9 x1 x3).bind fun bt534 => (if x1 < 0 then (whirligiglaw22_TreeMoves.j1 k x1 x2 x3 x9 t530 bt534.2.2.2.2 true bt534.1 bt534.2.1 bt534.2.2.1 bt534.2.2.2.1) else (if x1 ≥ (t530.length : Int) then (whirligiglaw22_TreeMoves.j1 k x1 x2 x3 x9 t530 bt534.2.2.2.2 true bt534.1 bt534.2.1 bt534.2.2.1 bt534.2.2.2.1) else (if x3 < 0 then (whirligiglaw22_TreeMoves.j1 k x1 x2 x3 x9 t530 bt534.2.2.2.2 true bt534.1 bt534.2.1 bt534.2.2.1 bt534.2.2.2.1) else (if 0 ≤ x1 then (if x1 < (t530.length : Int) then (whirligiglaw22_TreeMoves.j1 k x1 x2 x3 x9 t530 bt534.2.2.2.2 (decide (x3 ≥ ((rd_T65 t530 x1).f2))) bt534.1 bt534.2.1 bt534.2.2.1 bt534.2.2.2.1) else (none)) else (none)))))) else (some false))))
def whirligiglaw22_TreeMoves.j1 : Nat → Int → Int → Int → List (S43) → List (S65) → Bool → Bool → Int → Int → ByteArray → Int → Option (Bool)
 | 0, _, _, _, _, _, _, _, _, _, _, _ => none
 | k + 1, x1, x2, x3, x9, x12, x14, x87, x540000, x540001, x540002, x540003 => if x87 = true then (if x14 = true then (some false) else (if (!(x540000 == 0) || (!(x540001 == 0) || (!(x540002.toList == ([] : List UInt8)) || (!(x540003 == 0))))) = true then (some false) else (whirligiglaw22_TreeMoves.j2 k x1 x2 x9 x12))) else (if 0 ≤ x1 then (if x1 < (x12.length : Int) then ((whirligigref22_Moves.f k ((rd_T65 x12 x1).f0) ((rd_T65 x12 x1).f1) ((rd_T65 x12 x1).f2) ((rd_T65 x12 x1).f3)).bind fun t542 => (if 0 ≤ x3 then (if x3 < (t542.length : Int) then (if (x14 != (decide (((rd_T47 t542 x3).f1) > 0))) = true then (some false) else (if (!(x540000 == ((rd_T47 t542 x3).f0)) || (!(x540001 == ((rd_T47 t542 x3).f1)) || (!(x540002.toList == (((rd_T47 t542 x3).f2).toList)) || (!(x540003 == ((rd_T47 t542 x3).f3)))))) = true then (some false) else (whirligiglaw22_TreeMoves.j2 k x1 x2 x9 x12))) else (none)) else (none))) else (none)) else (none))
def whirligiglaw22_TreeMoves.j2 : Nat → Int → Int → List (S43) → List (S65) → Option (Bool)
 | 0, _, _, _, _ => none
 | k + 1, x1, x2, x9, x12 => (tree_Tree_Common.f k x9 x1 x2).bind fun t547 => (if x1 < 0 then (whirligiglaw22_TreeMoves.j3 k x1 x2 x9 x12 t547 true) else (if x1 ≥ (x12.length : Int) then (whirligiglaw22_TreeMoves.j3 k x1 x2 x9 x12 t547 true) else (if x2 < 0 then (whirligiglaw22_TreeMoves.j3 k x1 x2 x9 x12 t547 true) else (whirligiglaw22_TreeMoves.j3 k x1 x2 x9 x12 t547 (decide (x2 ≥ (x12.length : Int)))))))
def whirligiglaw22_TreeMoves.j3 : Nat → Int → Int → List (S43) → List (S65) → Int → Bool → Option (Bool)
 | 0, _, _, _, _, _, _ => none
 | k + 1, x1, x2, x9, x12, x16, x133 => if x133 = true then (some (x16 == 0)) else (if 0 ≤ x1 then (if x1 < (x12.length : Int) then (if 0 ≤ x2 then (if x2 < (x12.length : Int) then ((whirligigref22_Common.f k ((rd_T65 x12 x1).f0) ((rd_T65 x12 x1).f1) ((rd_T65 x12 x1).f2) ((rd_T65 x12 x1).f3) ((rd_T65 x12 x2).f0) ((rd_T65 x12 x2).f1) ((rd_T65 x12 x2).f2) ((rd_T65 x12 x2).f3)).bind fun t550 => (if x16 = t550 then ((tree_Tree_Common.f k x9 x2 x1).bind fun t551 => (some (t551 == x16))) else (some false))) else (none)) else (none)) else (none)) else (none))
end
def whirligiglaw22_TreeMoves.f (k : Nat) (l0 : List (S56)) (a1 : Int) (a2 : Int) (a3 : Int) : Option (Bool) := (whirligiglaw22_anchor.f k).bind fun t514 => (if t514 = true then ((whirligiglaw22_small.f k l0).bind fun t515 => (if t515 = true then ((tree_New.f).bind fun t516 => (whirligiglaw22_TreeMoves.l0 k a1 a2 a3 t516 l0 (l0.length : Int) 0)) else (some true))) else (some false))
def whirligiglaw22_TreeMoves.T28 : Bool × List (List Nat × List Nat) := (true, [([], []), ([], []), ([], []), ([1, 2], [1, 2]), ([3], [3]), ([], []), ([], []), ([5, 6], [5, 6]), ([7], [7]), ([4, 8], [4, 8]), ([0, 9], [0, 9]), ([10, 9], [10]), ([11], [11]), ([11], [11]), ([11], [11]), ([12, 13, 14, 11, 11], [11, 12, 13, 14]), ([11], [11]), ([15, 16, 11], [11, 15, 16]), ([11, 17], [11, 17]), ([18, 15, 0, 1, 2, 3, 4, 5, 6, 7, 8, 9, 10, 11, 12, 13, 14, 15, 16, 17, 18], [18])])
def whirligiglaw22_TreeMoves.B28 : List Nat := [0, 0, 0, 6, 14, 0, 0, 96, 224, 510, 1023, 2047, 4095, 4095, 4095, 32767, 4095, 131071, 262143, 524287]
theorem whirligiglaw22_TreeMoves.tab28 : rtab .any (opsOf Tryd.f9 28) = whirligiglaw22_TreeMoves.T28 := by kernel_rfl
theorem whirligiglaw22_TreeMoves.bits28 : waitsOk whirligiglaw22_TreeMoves.T28.2 whirligiglaw22_TreeMoves.B28 = true := by kernel_rfl
set_option maxHeartbeats 8000000 in
set_option maxRecDepth 100000 in
theorem whirligiglaw22_TreeMoves.calls (k : Nat) (A0 : Option Addr) (c0 : Nat) (l0 : List (S56)) (a1 : Int) (a2 : Int) (a3 : Int) (r : Bool) (w : World) (hr0 : Kd.C k56 w A0 l0.length l0) (hc0 : l0.length ≤ c0) (hL : Laid w) (h : whirligiglaw22_TreeMoves.f k l0 a1 a2 a3 = some r) :
  Calls Tryd.prog 9 #[.slice A0 l0.length c0, .int .i64 a1, .int .i64 a2, .int .i64 a3] w fun e w' => e = .returned (.bool r) ∧ Below w.heap.size w w' := by
 have hu56 := Tryd.underlying56
 have hu45 := Tryd.underlying45
 have hu65 := Tryd.underlying65
 have hu47 := Tryd.underlying47
 have HR0 := Aside0.mk hr0
 have HC0 := Aside0.mk hc0
 clear hr0 hc0
 have HB := Aside0.mk (Below.refl w.heap.size w)
 have HLD := Aside0.mk hL
 clear hL
 have H : ((whirligiglaw22_anchor.f k).bind fun t514 => (if t514 = true then ((whirligiglaw22_small.f k l0).bind fun t515 => (if t515 = true then ((tree_New.f).bind fun t516 => (whirligiglaw22_TreeMoves.l0 k a1 a2 a3 t516 l0 (l0.length : Int) 0)) else (some true))) else (some false))) = some r := h
 clear h
 replace H := Option.bind_eq_some_iff.mp H
 obtain ⟨t514, A50, H⟩ := H
 (try dsimp -simprocs only at H)
 have A5 := Aside0.mk A50
 clear A50
 by_cases c6 : t514 = true
 ·subst c6
  rw [if_pos rfl] at H
  replace H := Option.bind_eq_some_iff.mp H
  obtain ⟨t515, A70, H⟩ := H
  (try dsimp -simprocs only at H)
  have A7 := Aside0.mk A70
  clear A70
  by_cases c8 : t515 = true
  ·subst c8
   rw [if_pos rfl] at H
   replace H := Option.bind_eq_some_iff.mp H
   obtain ⟨t516, A90, H⟩ := H
   (try dsimp -simprocs only at H)
   have A9 := Aside0.mk A90
   clear A90
   have H' := Aside0.mk H
   clear H
   go_enter Tryd.func9, Tryd.ntmps9
   go_wp2_with (first | (refine gl (some 17) #[] Tryd.func32 ?_; (with_reducible refine (whirligiglaw22_anchor.calls k  true _ ?side1 A5.out).mono ?_); (case side1 => exact Laid.below HLD.out qB); rintro e w10 ⟨rfl, hb⟩; refine ⟨_, rfl, ?_⟩; replace HB := bst hb; (try clear hb)) | (refine gl (some 20) #[.slice A0 l0.length c0] Tryd.func38 ?_; (with_reducible refine (whirligiglaw22_small.calls k _ _ l0 true _ ?side1 ?side2 A7.out).mono ?_); (case side1 => exact qC); (case side2 => exact HC0.out); rintro e w11 ⟨rfl, hb⟩; refine ⟨_, rfl, ?_⟩; replace HB := bst hb; (try clear hb)) | (refine gl (some 22) #[] Tryd.func39 ?_; (with_reducible refine (tree_New.calls  t516 _ A9.out).mono ?_); rintro e w12 ⟨v517, rfl, ho0, hb⟩; refine ⟨_, rfl, ?_⟩; have HO518 := Aside0.mk (Kd.S_lower ho0 (below_size qB)); replace HB := bst hb; (try clear hb); (try clear ho0)))
   go_loopg [9, 25] k (fun kq v9 v25 w' => ∃ (x9_1 : List (S43)) (x25_1 : Int), v25 = .int .i64 x25_1 ∧ Aside0 (whirligiglaw22_TreeMoves.l0 kq a1 a2 a3 x9_1 l0 (l0.length : Int) x25_1 = some r) ∧ Aside0 (kq ≤ k) ∧ Aside0 (Kd.S k43 43 w' w.heap.size (fun _ => True) v9 x9_1) ∧ Aside0 (Below w.heap.size w w'))
   case atStart => exact ⟨(t516), (0), (by first | rfl | (simp; done) | (simp [*]; done)), H', ⟨Nat.le_refl _⟩, ⟨by (with_reducible repeat (first | apply Kd.S_alloc | apply Kd.S_drewN | apply Kd.S_drew)); exact HO518.out⟩, ⟨qB⟩⟩
   case round =>
    clear H'
    try clear p2
    try clear c3
    try clear c6
    try clear c8
    try clear c9
    obtain ⟨x9_1, x25_1, rfl, HA, HK1, HO_9, HB⟩ := hrel
    cases gk with
    | zero => exact absurd HA.out (by simp [whirligiglaw22_TreeMoves.l0])
    | succ k1 =>
     have H := HA.out
     clear HA
     simp only [whirligiglaw22_TreeMoves.l0] at H
     by_cases c13 : x25_1 < (l0.length : Int)
     ·rw [if_pos c13] at H
      have c13b0 := decide_eq_true c13
      clear c13
      by_cases c14 : 0 ≤ x25_1
      ·rw [if_pos c14] at H
       have c14b0 := decide_eq_true c14
       clear c14
       by_cases c15 : x25_1 < (l0.length : Int)
       ·rw [if_pos c15] at H
        have c15b0 := decide_eq_true c15
        clear c15
        by_cases c16 : ((rd_T56 l0 x25_1).f0) = 1
        ·rw [if_pos c16] at H
         have c16b0 := beq_iff_eq.mpr c16
         have c16b1 := bne_eq_false_iff_eq.mpr c16
         clear c16
         replace H := Option.bind_eq_some_iff.mp H
         obtain ⟨⟨t521, t522⟩, A170, H⟩ := H
         (try dsimp -simprocs only at H)
         have A17 := Aside0.mk A170
         clear A170
         have H' := Aside0.mk H
         clear H
         have p519 : 0 ≤ (x25_1 : Int) := qD
         have q519 : x25_1 < (l0.length : Int) := qD
         obtain ⟨ad519, e519, hx519_0, hx519_1, hx519_2, hx519_3, hx519_4, hx519_5, hx519_6⟩ := at_T56 (Kd.C_below HR0.out HB.out) x25_1 p519 q519
         cases e519
         replace p519 := eq_true p519
         replace q519 := eq_true q519
         go_wp2_with (first | ((with_reducible refine gate_dst (N := 11) rfl ?_); (try (refine gate_guard (by rfl) ?_; dsimp only)); refine box_event ?hg (N := 11) ?hd (cs := #[.int .i64 0, .int .i64 0, .int .i64 0, .int .i64 0, .int .i64 0, .string (⟨#[]⟩ : ByteArray), .int .i64 0]) (t := 56) ?hr ?_; (case hd => rfl); (case hg => rfl); (case hr => first | (go_simp; done) | (go_simp; rfl)); intro gb520 hg w18 hbox hb; have n0_ := Aside0.mk (Kd.S_below (by (with_reducible repeat (first | apply Kd.S_alloc | apply Kd.S_drewN | apply Kd.S_drew)); exact HO_9.out) hb); have n1_ := bst hb; have n2_ := Aside0.mk (hbox); have n3_ := geS hg; have n4_ := geS hg; clear HO_9; clear HB; have HO_9 := n0_; have HB := n1_; have BK520 := n2_; have GW520 := n3_; have GE520 := n4_; clear n0_ n1_ n2_ n3_ n4_; clear hb hbox hg; obtain ⟨hcz19_0, hcz19_1, hcz19_2, hcz19_3, hcz19_4, hcz19_5, hcz19_6, hfz19_0, hfz19_1, hfz19_2, hfz19_3, hfz19_4, hfz19_5, hfz19_6⟩ := cells7 BK520.out; obtain ⟨Ao20, co20, eo20⟩ := Kd.S_slice HO_9.out; subst eo20) | (refine gl (some 37) #[.slice Ao20 x9_1.length co20, .int .i64 ((rd_T56 l0 x25_1).f1)] Tryd.func40 ?_; (with_reducible refine (tree_Tree_Grow.calls _ _ x9_1 ((rd_T56 l0 x25_1).f1) t521 t522 _ ?side1 ?side2 A17.out).mono ?_); (case side1 => refine (Kd.S_reads' (e := 43) (base := w.heap.size) (ok := fun k_ => True) (n := x9_1.length) (c := co20) ?_).2.2; exact (by (with_reducible repeat (first | apply Kd.S_alloc | apply Kd.S_drewN | apply Kd.S_drew)); exact (Kd.S_mono (Kd.S_far (p := ⟨gb520, 6, none⟩) (Kd.S_far (p := ⟨gb520, 5, none⟩) (Kd.S_far (p := ⟨gb520, 4, none⟩) (Kd.S_far (p := ⟨gb520, 3, none⟩) (Kd.S_far (p := ⟨gb520, 2, none⟩) (Kd.S_far (p := ⟨gb520, 1, none⟩) (Kd.S_far (p := ⟨gb520, 0, none⟩) (Kd.S_types HO_9.out BK520.out (by decide)) (fun _ hk => hk.2) (.int .i64 ((rd_T56 l0 x25_1).f0))) (fun _ hk => hk.2) (.int .i64 ((rd_T56 l0 x25_1).f1))) (fun _ hk => hk.2) (.int .i64 ((rd_T56 l0 x25_1).f2))) (fun _ hk => hk.2) (.int .i64 ((rd_T56 l0 x25_1).f3.f0))) (fun _ hk => hk.2) (.int .i64 ((rd_T56 l0 x25_1).f3.f1))) (fun _ hk => hk.2) (.string ((rd_T56 l0 x25_1).f3.f2))) (fun _ hk => hk.2) (.int .i64 ((rd_T56 l0 x25_1).f3.f3))) (fun _ h_ => h_.1)))); (case side2 => exact (Kd.S_reads' HO_9.out).2.1); rintro e w21 ⟨v523, rfl, ho0, hb⟩; refine ⟨_, rfl, ?_⟩; have n0_ := Aside0.mk (Kd.S_elder' (by (with_reducible repeat (first | apply Kd.S_alloc | apply Kd.S_drewN | apply Kd.S_drew)); exact (Kd.S_mono (Kd.S_far (p := ⟨gb520, 6, none⟩) (Kd.S_far (p := ⟨gb520, 5, none⟩) (Kd.S_far (p := ⟨gb520, 4, none⟩) (Kd.S_far (p := ⟨gb520, 3, none⟩) (Kd.S_far (p := ⟨gb520, 2, none⟩) (Kd.S_far (p := ⟨gb520, 1, none⟩) (Kd.S_far (p := ⟨gb520, 0, none⟩) (Kd.S_types HO_9.out BK520.out (by decide)) (fun _ hk => hk.2) (.int .i64 ((rd_T56 l0 x25_1).f0))) (fun _ hk => hk.2) (.int .i64 ((rd_T56 l0 x25_1).f1))) (fun _ hk => hk.2) (.int .i64 ((rd_T56 l0 x25_1).f2))) (fun _ hk => hk.2) (.int .i64 ((rd_T56 l0 x25_1).f3.f0))) (fun _ hk => hk.2) (.int .i64 ((rd_T56 l0 x25_1).f3.f1))) (fun _ hk => hk.2) (.string ((rd_T56 l0 x25_1).f3.f2))) (fun _ hk => hk.2) (.int .i64 ((rd_T56 l0 x25_1).f3.f3))) (fun _ h_ => h_.1))) (Kd.S_base ho0) hb); have n1_ := Aside0.mk (Kd.S_lower (Kd.S_new' ho0 (Kd.S_lt (by (with_reducible repeat (first | apply Kd.S_alloc | apply Kd.S_drewN | apply Kd.S_drew)); exact (Kd.S_mono (Kd.S_far (p := ⟨gb520, 6, none⟩) (Kd.S_far (p := ⟨gb520, 5, none⟩) (Kd.S_far (p := ⟨gb520, 4, none⟩) (Kd.S_far (p := ⟨gb520, 3, none⟩) (Kd.S_far (p := ⟨gb520, 2, none⟩) (Kd.S_far (p := ⟨gb520, 1, none⟩) (Kd.S_far (p := ⟨gb520, 0, none⟩) (Kd.S_types HO_9.out BK520.out (by decide)) (fun _ hk => hk.2) (.int .i64 ((rd_T56 l0 x25_1).f0))) (fun _ hk => hk.2) (.int .i64 ((rd_T56 l0 x25_1).f1))) (fun _ hk => hk.2) (.int .i64 ((rd_T56 l0 x25_1).f2))) (fun _ hk => hk.2) (.int .i64 ((rd_T56 l0 x25_1).f3.f0))) (fun _ hk => hk.2) (.int .i64 ((rd_T56 l0 x25_1).f3.f1))) (fun _ hk => hk.2) (.string ((rd_T56 l0 x25_1).f3.f2))) (fun _ hk => hk.2) (.int .i64 ((rd_T56 l0 x25_1).f3.f3))) (fun _ h_ => h_.1))))) (below_size qB)); have n2_ := kp gb520 (.cells #[.int .i64 ((rd_T56 l0 x25_1).f0), .int .i64 ((rd_T56 l0 x25_1).f1), .int .i64 ((rd_T56 l0 x25_1).f2), .int .i64 ((rd_T56 l0 x25_1).f3.f0), .int .i64 ((rd_T56 l0 x25_1).f3.f1), .string ((rd_T56 l0 x25_1).f3.f2), .int .i64 ((rd_T56 l0 x25_1).f3.f3)] 56 (0, 0)) hb; have n3_ := bst hb; clear HO_9; clear BK520; clear HB; have HO_9 := n0_; have HO524 := n1_; have BK520 := n2_; have HB := n3_; clear n0_ n1_ n2_ n3_; (try clear hb); (try clear ho0)))
         go_roundg k1
         case measure => have := HK1.out; omega
         case rel => exact ⟨(t521), (wrap64 (x25_1 + 1)), (by first | rfl | (simp; done) | (simp [*]; done)), H', ⟨by have := HK1.out; omega⟩, ⟨by (with_reducible repeat (first | apply Kd.S_alloc | apply Kd.S_drewN | apply Kd.S_drew)); exact Kd.S_mono HO524.out (fun _ hk => trivial)⟩, ⟨qB⟩⟩
        ·rw [if_neg c16] at H
         have c16b0 := beq_eq_false_iff_ne.mpr c16
         have c16b1 := bne_iff_ne.mpr c16
         by_cases c22 : ((rd_T56 l0 x25_1).f0) = 2
         ·rw [if_pos c22] at H
          have c22b0 := beq_iff_eq.mpr c22
          have c22b1 := bne_eq_false_iff_eq.mpr c22
          clear c22
          replace H := Option.bind_eq_some_iff.mp H
          obtain ⟨⟨t525, t528, t529⟩, A230, H⟩ := H
          (try dsimp -simprocs only at H)
          have A23 := Aside0.mk A230
          clear A230
          have H' := Aside0.mk H
          clear H
          have p519 : 0 ≤ (x25_1 : Int) := qD
          have q519 : x25_1 < (l0.length : Int) := qD
          obtain ⟨ad519, e519, hx519_0, hx519_1, hx519_2, hx519_3, hx519_4, hx519_5, hx519_6⟩ := at_T56 (Kd.C_below HR0.out HB.out) x25_1 p519 q519
          cases e519
          replace p519 := eq_true p519
          replace q519 := eq_true q519
          go_wp2_with (first | ((with_reducible refine gate_dst (N := 11) rfl ?_); (try (refine gate_guard (by rfl) ?_; dsimp only)); refine box_event ?hg (N := 11) ?hd (cs := #[.int .i64 0, .int .i64 0, .int .i64 0, .int .i64 0, .int .i64 0, .string (⟨#[]⟩ : ByteArray), .int .i64 0]) (t := 56) ?hr ?_; (case hd => rfl); (case hg => rfl); (case hr => first | (go_simp; done) | (go_simp; rfl)); intro gb520 hg w24 hbox hb; have n0_ := Aside0.mk (Kd.S_below (by (with_reducible repeat (first | apply Kd.S_alloc | apply Kd.S_drewN | apply Kd.S_drew)); exact HO_9.out) hb); have n1_ := bst hb; have n2_ := Aside0.mk (hbox); have n3_ := geS hg; have n4_ := geS hg; clear HO_9; clear HB; have HO_9 := n0_; have HB := n1_; have BK520 := n2_; have GW520 := n3_; have GE520 := n4_; clear n0_ n1_ n2_ n3_ n4_; clear hb hbox hg; obtain ⟨hcz25_0, hcz25_1, hcz25_2, hcz25_3, hcz25_4, hcz25_5, hcz25_6, hfz25_0, hfz25_1, hfz25_2, hfz25_3, hfz25_4, hfz25_5, hfz25_6⟩ := cells7 BK520.out; obtain ⟨Ao26, co26, eo26⟩ := Kd.S_slice HO_9.out; subst eo26) | (refine gl (some 50) #[.slice Ao26 x9_1.length co26, .int .i64 ((rd_T56 l0 x25_1).f1), .int .i64 ((rd_T56 l0 x25_1).f2), .agg #[.int .i64 ((rd_T56 l0 x25_1).f3.f0), .int .i64 ((rd_T56 l0 x25_1).f3.f1), .string ((rd_T56 l0 x25_1).f3.f2), .int .i64 ((rd_T56 l0 x25_1).f3.f3)]] Tryd.func41 ?_; (with_reducible refine (tree_Tree_Put.calls k1 _ _ x9_1 ((rd_T56 l0 x25_1).f1) ((rd_T56 l0 x25_1).f2) ((rd_T56 l0 x25_1).f3.f0) ((rd_T56 l0 x25_1).f3.f1) ((rd_T56 l0 x25_1).f3.f2) ((rd_T56 l0 x25_1).f3.f3) t525 t528 t529 _ ?side1 ?side2 ?side3 A23.out).mono ?_); (case side1 => refine (Kd.S_reads' (e := 43) (base := w.heap.size) (ok := fun k_ => True) (n := x9_1.length) (c := co26) ?_).2.2; exact (by (with_reducible repeat (first | apply Kd.S_alloc | apply Kd.S_drewN | apply Kd.S_drew)); exact (Kd.S_mono (Kd.S_far (p := ⟨gb520, 6, none⟩) (Kd.S_far (p := ⟨gb520, 5, none⟩) (Kd.S_far (p := ⟨gb520, 4, none⟩) (Kd.S_far (p := ⟨gb520, 3, none⟩) (Kd.S_far (p := ⟨gb520, 2, none⟩) (Kd.S_far (p := ⟨gb520, 1, none⟩) (Kd.S_far (p := ⟨gb520, 0, none⟩) (Kd.S_types HO_9.out BK520.out (by decide)) (fun _ hk => hk.2) (.int .i64 ((rd_T56 l0 x25_1).f0))) (fun _ hk => hk.2) (.int .i64 ((rd_T56 l0 x25_1).f1))) (fun _ hk => hk.2) (.int .i64 ((rd_T56 l0 x25_1).f2))) (fun _ hk => hk.2) (.int .i64 ((rd_T56 l0 x25_1).f3.f0))) (fun _ hk => hk.2) (.int .i64 ((rd_T56 l0 x25_1).f3.f1))) (fun _ hk => hk.2) (.string ((rd_T56 l0 x25_1).f3.f2))) (fun _ hk => hk.2) (.int .i64 ((rd_T56 l0 x25_1).f3.f3))) (fun _ h_ => h_.1)))); (case side2 => exact (Kd.S_reads' HO_9.out).2.1); (case side3 => exact Laid.below HLD.out qB); rintro e w27 ⟨v526, rfl, ho0, hb⟩; refine ⟨_, rfl, ?_⟩; have n0_ := Aside0.mk (Kd.S_elder' (by (with_reducible repeat (first | apply Kd.S_alloc | apply Kd.S_drewN | apply Kd.S_drew)); exact (Kd.S_mono (Kd.S_far (p := ⟨gb520, 6, none⟩) (Kd.S_far (p := ⟨gb520, 5, none⟩) (Kd.S_far (p := ⟨gb520, 4, none⟩) (Kd.S_far (p := ⟨gb520, 3, none⟩) (Kd.S_far (p := ⟨gb520, 2, none⟩) (Kd.S_far (p := ⟨gb520, 1, none⟩) (Kd.S_far (p := ⟨gb520, 0, none⟩) (Kd.S_types HO_9.out BK520.out (by decide)) (fun _ hk => hk.2) (.int .i64 ((rd_T56 l0 x25_1).f0))) (fun _ hk => hk.2) (.int .i64 ((rd_T56 l0 x25_1).f1))) (fun _ hk => hk.2) (.int .i64 ((rd_T56 l0 x25_1).f2))) (fun _ hk => hk.2) (.int .i64 ((rd_T56 l0 x25_1).f3.f0))) (fun _ hk => hk.2) (.int .i64 ((rd_T56 l0 x25_1).f3.f1))) (fun _ hk => hk.2) (.string ((rd_T56 l0 x25_1).f3.f2))) (fun _ hk => hk.2) (.int .i64 ((rd_T56 l0 x25_1).f3.f3))) (fun _ h_ => h_.1))) (Kd.S_base ho0) hb); have n1_ := Aside0.mk (Kd.S_lower (Kd.S_new' ho0 (Kd.S_lt (by (with_reducible repeat (first | apply Kd.S_alloc | apply Kd.S_drewN | apply Kd.S_drew)); exact (Kd.S_mono (Kd.S_far (p := ⟨gb520, 6, none⟩) (Kd.S_far (p := ⟨gb520, 5, none⟩) (Kd.S_far (p := ⟨gb520, 4, none⟩) (Kd.S_far (p := ⟨gb520, 3, none⟩) (Kd.S_far (p := ⟨gb520, 2, none⟩) (Kd.S_far (p := ⟨gb520, 1, none⟩) (Kd.S_far (p := ⟨gb520, 0, none⟩) (Kd.S_types HO_9.out BK520.out (by decide)) (fun _ hk => hk.2) (.int .i64 ((rd_T56 l0 x25_1).f0))) (fun _ hk => hk.2) (.int .i64 ((rd_T56 l0 x25_1).f1))) (fun _ hk => hk.2) (.int .i64 ((rd_T56 l0 x25_1).f2))) (fun _ hk => hk.2) (.int .i64 ((rd_T56 l0 x25_1).f3.f0))) (fun _ hk => hk.2) (.int .i64 ((rd_T56 l0 x25_1).f3.f1))) (fun _ hk => hk.2) (.string ((rd_T56 l0 x25_1).f3.f2))) (fun _ hk => hk.2) (.int .i64 ((rd_T56 l0 x25_1).f3.f3))) (fun _ h_ => h_.1))))) (below_size qB)); have n2_ := kp gb520 (.cells #[.int .i64 ((rd_T56 l0 x25_1).f0), .int .i64 ((rd_T56 l0 x25_1).f1), .int .i64 ((rd_T56 l0 x25_1).f2), .int .i64 ((rd_T56 l0 x25_1).f3.f0), .int .i64 ((rd_T56 l0 x25_1).f3.f1), .string ((rd_T56 l0 x25_1).f3.f2), .int .i64 ((rd_T56 l0 x25_1).f3.f3)] 56 (0, 0)) hb; have n3_ := bst hb; clear HO_9; clear BK520; clear HB; have HO_9 := n0_; have HO527 := n1_; have BK520 := n2_; have HB := n3_; clear n0_ n1_ n2_ n3_; (try clear hb); (try clear ho0)))
          go_roundg k1
          case measure => have := HK1.out; omega
          case rel => exact ⟨(t525), (wrap64 (x25_1 + 1)), (by first | rfl | (simp; done) | (simp [*]; done)), H', ⟨by have := HK1.out; omega⟩, ⟨by (with_reducible repeat (first | apply Kd.S_alloc | apply Kd.S_drewN | apply Kd.S_drew)); exact Kd.S_mono HO527.out (fun _ hk => trivial)⟩, ⟨qB⟩⟩
         ·rw [if_neg c22] at H
          have c22b0 := beq_eq_false_iff_ne.mpr c22
          have c22b1 := bne_iff_ne.mpr c22
          have H' := Aside0.mk H
          clear H
          have p519 : 0 ≤ (x25_1 : Int) := qD
          have q519 : x25_1 < (l0.length : Int) := qD
          obtain ⟨ad519, e519, hx519_0, hx519_1, hx519_2, hx519_3, hx519_4, hx519_5, hx519_6⟩ := at_T56 (Kd.C_below HR0.out HB.out) x25_1 p519 q519
          cases e519
          replace p519 := eq_true p519
          replace q519 := eq_true q519
          go_wp2_with (first | ((with_reducible refine gate_dst (N := 11) rfl ?_); (try (refine gate_guard (by rfl) ?_; dsimp only)); refine box_event ?hg (N := 11) ?hd (cs := #[.int .i64 0, .int .i64 0, .int .i64 0, .int .i64 0, .int .i64 0, .string (⟨#[]⟩ : ByteArray), .int .i64 0]) (t := 56) ?hr ?_; (case hd => rfl); (case hg => rfl); (case hr => first | (go_simp; done) | (go_simp; rfl)); intro gb520 hg w28 hbox hb; have n0_ := Aside0.mk (Kd.S_below (by (with_reducible repeat (first | apply Kd.S_alloc | apply Kd.S_drewN | apply Kd.S_drew)); exact HO_9.out) hb); have n1_ := bst hb; have n2_ := Aside0.mk (hbox); have n3_ := geS hg; have n4_ := geS hg; clear HO_9; clear HB; have HO_9 := n0_; have HB := n1_; have BK520 := n2_; have GW520 := n3_; have GE520 := n4_; clear n0_ n1_ n2_ n3_ n4_; clear hb hbox hg; obtain ⟨hcz29_0, hcz29_1, hcz29_2, hcz29_3, hcz29_4, hcz29_5, hcz29_6, hfz29_0, hfz29_1, hfz29_2, hfz29_3, hfz29_4, hfz29_5, hfz29_6⟩ := cells7 BK520.out))
          go_roundg k1
          case measure => have := HK1.out; omega
          case rel => exact ⟨(x9_1), (wrap64 (x25_1 + 1)), (by first | rfl | (simp; done) | (simp [*]; done)), H', ⟨by have := HK1.out; omega⟩, ⟨by (with_reducible repeat (first | apply Kd.S_alloc | apply Kd.S_drewN | apply Kd.S_drew)); exact Kd.S_mono (Kd.S_far (p := ⟨gb520, 6, none⟩) (Kd.S_far (p := ⟨gb520, 5, none⟩) (Kd.S_far (p := ⟨gb520, 4, none⟩) (Kd.S_far (p := ⟨gb520, 3, none⟩) (Kd.S_far (p := ⟨gb520, 2, none⟩) (Kd.S_far (p := ⟨gb520, 1, none⟩) (Kd.S_far (p := ⟨gb520, 0, none⟩) (Kd.S_types HO_9.out BK520.out (by decide)) (fun _ hk => hk.2) (.int .i64 ((rd_T56 l0 x25_1).f0))) (fun _ hk => hk.2) (.int .i64 ((rd_T56 l0 x25_1).f1))) (fun _ hk => hk.2) (.int .i64 ((rd_T56 l0 x25_1).f2))) (fun _ hk => hk.2) (.int .i64 ((rd_T56 l0 x25_1).f3.f0))) (fun _ hk => hk.2) (.int .i64 ((rd_T56 l0 x25_1).f3.f1))) (fun _ hk => hk.2) (.string ((rd_T56 l0 x25_1).f3.f2))) (fun _ hk => hk.2) (.int .i64 ((rd_T56 l0 x25_1).f3.f3))) (fun _ hk => trivial)⟩, ⟨qB⟩⟩
       ·rw [if_neg c15] at H
        exact absurd H (by simp)
      ·rw [if_neg c14] at H
       exact absurd H (by simp)
     ·rw [if_neg c13] at H
      have c13b0 := decide_eq_false c13
      clear c13
      replace H := Option.bind_eq_some_iff.mp H
      obtain ⟨t530, A300, H⟩ := H
      (try dsimp -simprocs only at H)
      have A30 := Aside0.mk A300
      clear A300
      replace H := Option.bind_eq_some_iff.mp H
      obtain ⟨t533, A310, H⟩ := H
      (try dsimp -simprocs only at H)
      have A31 := Aside0.mk A310
      clear A310
      by_cases c32 : t533 = true
      ·subst c32
       rw [if_pos rfl] at H
       replace H := Option.bind_eq_some_iff.mp H
       obtain ⟨⟨t534, t535, t536, t537, t538⟩, A330, H⟩ := H
       (try dsimp -simprocs only at H)
       have A33 := Aside0.mk A330
       clear A330
       have HC34 := Aside0.mk H
       clear H
       obtain ⟨Ao35, co35, eo35⟩ := Kd.S_slice HO_9.out
       subst eo35
       go_upto_region 19 with (first | (refine gl (some 56) #[.slice Ao35 x9_1.length co35] Tryd.func37 ?_; (with_reducible refine (whirligiglaw22_refs.calls k1 _ _ x9_1 t530 _ ?side1 ?side2 A30.out).mono ?_); (case side1 => repeat (first | exact (Kd.S_reads' HO_9.out).2.2 | (with_reducible refine Kd.C_alloc ?_ _) | (with_reducible refine Kd.C_drewN ?_ _) | (with_reducible refine Kd.C_drew ?_))); (case side2 => exact (Kd.S_reads' HO_9.out).2.1); rintro e w36 ⟨v531, rfl, ho0, hb⟩; refine ⟨_, rfl, ?_⟩; have n0_ := Aside0.mk (Kd.S_below (by (with_reducible repeat (first | apply Kd.S_alloc | apply Kd.S_drewN | apply Kd.S_drew)); exact HO_9.out) hb); have n1_ := Aside0.mk (Kd.S_lower ho0 (below_size qB)); have n2_ := bst hb; clear HO_9; clear HB; have HO_9 := n0_; have HO532 := n1_; have HB := n2_; clear n0_ n1_ n2_; (try clear hb); (try clear ho0); obtain ⟨Ao37, co37, eo37⟩ := Kd.S_slice HO532.out; subst eo37) | (refine gl (some 58) #[.slice Ao37 t530.length co37] Tryd.func36 ?_; (with_reducible refine (whirligigref22_Right.calls k1 _ _ t530 true _ ?side1 ?side2 A31.out).mono ?_); (case side1 => repeat (first | exact (Kd.S_reads' HO532.out).2.2 | (with_reducible refine Kd.C_alloc ?_ _) | (with_reducible refine Kd.C_drewN ?_ _) | (with_reducible refine Kd.C_drew ?_))); (case side2 => exact (Kd.S_reads' HO532.out).2.1); rintro e w38 ⟨rfl, hb⟩; refine ⟨_, rfl, ?_⟩; have n0_ := Aside0.mk (Kd.S_below (by (with_reducible repeat (first | apply Kd.S_alloc | apply Kd.S_drewN | apply Kd.S_drew)); exact HO_9.out) hb); have n1_ := Aside0.mk (Kd.S_below (by (with_reducible repeat (first | apply Kd.S_alloc | apply Kd.S_drewN | apply Kd.S_drew)); exact HO532.out) hb); have n2_ := bst hb; clear HO_9; clear HO532; clear HB; have HO_9 := n0_; have HO532 := n1_; have HB := n2_; clear n0_ n1_ n2_; (try clear hb)) | (refine gl (some 64) #[.slice Ao35 x9_1.length co35, .int .i64 a1, .int .i64 a3] Tryd.func42 ?_; (with_reducible refine (tree_Tree_Input.calls _ _ x9_1 a1 a3 t534 t535 t536 t537 t538 _ ?side1 ?side2 A33.out).mono ?_); (case side1 => repeat (first | exact (Kd.S_reads' HO_9.out).2.2 | (with_reducible refine Kd.C_alloc ?_ _) | (with_reducible refine Kd.C_drewN ?_ _) | (with_reducible refine Kd.C_drew ?_))); (case side2 => exact (Kd.S_reads' HO_9.out).2.1); rintro e w39 ⟨rfl, hb⟩; refine ⟨_, rfl, ?_⟩; have n0_ := Aside0.mk (Kd.S_below (by (with_reducible repeat (first | apply Kd.S_alloc | apply Kd.S_drewN | apply Kd.S_drew)); exact HO_9.out) hb); have n1_ := Aside0.mk (Kd.S_below (by (with_reducible repeat (first | apply Kd.S_alloc | apply Kd.S_drewN | apply Kd.S_drew)); exact HO532.out) hb); have n2_ := bst hb; clear HO_9; clear HO532; clear HB; have HO_9 := n0_; have HO532 := n1_; have HB := n2_; clear n0_ n1_ n2_; (try clear hb)) | ((with_reducible refine gate_dst (N := 13) rfl ?_); (try (refine gate_guard (by rfl) ?_; dsimp only)); refine box_event ?hg (N := 13) ?hd (cs := #[.int .i64 0, .int .i64 0, .string (⟨#[]⟩ : ByteArray), .int .i64 0]) (t := 45) ?hr ?_; (case hd => rfl); (case hg => rfl); (case hr => first | (go_simp; done) | (go_simp; rfl)); intro gb539 hg w40 hbox hb; have n0_ := Aside0.mk (Kd.S_below (Kd.S_elderB (by (with_reducible repeat (first | apply Kd.S_alloc | apply Kd.S_drewN | apply Kd.S_drew)); exact HO_9.out) gb539 (Nat.le_of_eq hg.symm)) hb); have n1_ := Aside0.mk (Kd.S_below (by (with_reducible repeat (first | apply Kd.S_alloc | apply Kd.S_drewN | apply Kd.S_drew)); exact HO532.out) hb); have n2_ := bst hb; have n3_ := Aside0.mk (hbox); have n4_ := geS hg; have n5_ := geS hg; clear HO_9; clear HO532; clear HB; have HO_9 := n0_; have HO532 := n1_; have HB := n2_; have BK539 := n3_; have GW539 := n4_; have GE539 := n5_; clear n0_ n1_ n2_ n3_ n4_ n5_; clear hb hbox hg; obtain ⟨hcz41_0, hcz41_1, hcz41_2, hcz41_3, hfz41_0, hfz41_1, hfz41_2, hfz41_3⟩ := cells4 BK539.out))
       (try simp only [Act.put, List.setIfInBounds_toArray, List.set_cons_zero, List.set_cons_succ])
       go_cut [87] (fun v87 wc => ∃ (kq : Nat) (x87_33 : Bool), v87 = .bool x87_33 ∧ Aside0 (whirligiglaw22_TreeMoves.j1 kq a1 a2 a3 x9_1 t530 t538 x87_33 t534 t535 t536 t537 = some r) ∧ Aside0 (kq ≤ k1) ∧ Aside0 (Kd.S k43 43 wc w.heap.size (fun k_ => k_ ≠ gb539) (.slice Ao35 x9_1.length co35) x9_1) ∧ Aside0 (Kd.S k65 65 wc w.heap.size (fun _ => True) (.slice Ao37 t530.length co37) t530) ∧ Aside0 (wc.heap[gb539]? = some (.cells #[.int .i64 t534, .int .i64 t535, .string t536, .int .i64 t537] 45 (0, 0))) ∧ Aside0 (Below w.heap.size w wc))
       case first =>
        have H := HC34.out
        clear HC34
        by_cases c42 : a1 < 0
        ·rw [if_pos c42] at H
         have c42b0 := decide_eq_true c42
         clear c42
         (first | rw [c42b0] | (simp only [i64_w, i32_w]; rw [c42b0]) | skip)
         have H' := Aside0.mk H
         clear H
         go_wp2
         go_meet
         case rel => exact ⟨_, (true), (by first | rfl | (simp; done) | (simp [*]; done)), H', ⟨by have := HK1.out; first | omega | exact Nat.le_refl _⟩, ⟨by (with_reducible repeat (first | apply Kd.S_alloc | apply Kd.S_drewN | apply Kd.S_drew)); exact Kd.S_mono (Kd.S_far (p := ⟨gb539, 3, none⟩) (Kd.S_far (p := ⟨gb539, 2, none⟩) (Kd.S_far (p := ⟨gb539, 1, none⟩) (Kd.S_far (p := ⟨gb539, 0, none⟩) (Kd.S_mono HO_9.out (fun k_ hk => (⟨hk, hk.2⟩ : _ ∧ k_ ≠ gb539))) (fun _ hk => hk.2) (.int .i64 t534)) (fun _ hk => hk.2) (.int .i64 t535)) (fun _ hk => hk.2) (.string t536)) (fun _ hk => hk.2) (.int .i64 t537)) (fun _ hk => hk.1.2)⟩, ⟨by (with_reducible repeat (first | apply Kd.S_alloc | apply Kd.S_drewN | apply Kd.S_drew)); exact Kd.S_mono (Kd.S_far (p := ⟨gb539, 3, none⟩) (Kd.S_far (p := ⟨gb539, 2, none⟩) (Kd.S_far (p := ⟨gb539, 1, none⟩) (Kd.S_far (p := ⟨gb539, 0, none⟩) (Kd.S_types HO532.out BK539.out (by decide)) (fun _ hk => hk.2) (.int .i64 t534)) (fun _ hk => hk.2) (.int .i64 t535)) (fun _ hk => hk.2) (.string t536)) (fun _ hk => hk.2) (.int .i64 t537)) (fun _ hk => trivial)⟩, ⟨qP⟩, ⟨qB⟩⟩
        ·rw [if_neg c42] at H
         have c42b0 := decide_eq_false c42
         clear c42
         (first | rw [c42b0] | (simp only [i64_w, i32_w]; rw [c42b0]) | skip)
         by_cases c43 : a1 ≥ (t530.length : Int)
         ·rw [if_pos c43] at H
          have c43b0 := decide_eq_true c43
          clear c43
          have H' := Aside0.mk H
          clear H
          go_wp2
          go_meet
          case rel => exact ⟨_, (true), (by first | rfl | (simp; done) | (simp [*]; done)), H', ⟨by have := HK1.out; first | omega | exact Nat.le_refl _⟩, ⟨by (with_reducible repeat (first | apply Kd.S_alloc | apply Kd.S_drewN | apply Kd.S_drew)); exact Kd.S_mono (Kd.S_far (p := ⟨gb539, 3, none⟩) (Kd.S_far (p := ⟨gb539, 2, none⟩) (Kd.S_far (p := ⟨gb539, 1, none⟩) (Kd.S_far (p := ⟨gb539, 0, none⟩) (Kd.S_mono HO_9.out (fun k_ hk => (⟨hk, hk.2⟩ : _ ∧ k_ ≠ gb539))) (fun _ hk => hk.2) (.int .i64 t534)) (fun _ hk => hk.2) (.int .i64 t535)) (fun _ hk => hk.2) (.string t536)) (fun _ hk => hk.2) (.int .i64 t537)) (fun _ hk => hk.1.2)⟩, ⟨by (with_reducible repeat (first | apply Kd.S_alloc | apply Kd.S_drewN | apply Kd.S_drew)); exact Kd.S_mono (Kd.S_far (p := ⟨gb539, 3, none⟩) (Kd.S_far (p := ⟨gb539, 2, none⟩) (Kd.S_far (p := ⟨gb539, 1, none⟩) (Kd.S_far (p := ⟨gb539, 0, none⟩) (Kd.S_types HO532.out BK539.out (by decide)) (fun _ hk => hk.2) (.int .i64 t534)) (fun _ hk => hk.2) (.int .i64 t535)) (fun _ hk => hk.2) (.string t536)) (fun _ hk => hk.2) (.int .i64 t537)) (fun _ hk => trivial)⟩, ⟨qP⟩, ⟨qB⟩⟩
         ·rw [if_neg c43] at H
          have c43b0 := decide_eq_false c43
          clear c43
          by_cases c44 : a3 < 0
          ·rw [if_pos c44] at H
           have c44b0 := decide_eq_true c44
           clear c44
           have H' := Aside0.mk H
           clear H
           go_wp2
           go_meet
           case rel => exact ⟨_, (true), (by first | rfl | (simp; done) | (simp [*]; done)), H', ⟨by have := HK1.out; first | omega | exact Nat.le_refl _⟩, ⟨by (with_reducible repeat (first | apply Kd.S_alloc | apply Kd.S_drewN | apply Kd.S_drew)); exact Kd.S_mono (Kd.S_far (p := ⟨gb539, 3, none⟩) (Kd.S_far (p := ⟨gb539, 2, none⟩) (Kd.S_far (p := ⟨gb539, 1, none⟩) (Kd.S_far (p := ⟨gb539, 0, none⟩) (Kd.S_mono HO_9.out (fun k_ hk => (⟨hk, hk.2⟩ : _ ∧ k_ ≠ gb539))) (fun _ hk => hk.2) (.int .i64 t534)) (fun _ hk => hk.2) (.int .i64 t535)) (fun _ hk => hk.2) (.string t536)) (fun _ hk => hk.2) (.int .i64 t537)) (fun _ hk => hk.1.2)⟩, ⟨by (with_reducible repeat (first | apply Kd.S_alloc | apply Kd.S_drewN | apply Kd.S_drew)); exact Kd.S_mono (Kd.S_far (p := ⟨gb539, 3, none⟩) (Kd.S_far (p := ⟨gb539, 2, none⟩) (Kd.S_far (p := ⟨gb539, 1, none⟩) (Kd.S_far (p := ⟨gb539, 0, none⟩) (Kd.S_types HO532.out BK539.out (by decide)) (fun _ hk => hk.2) (.int .i64 t534)) (fun _ hk => hk.2) (.int .i64 t535)) (fun _ hk => hk.2) (.string t536)) (fun _ hk => hk.2) (.int .i64 t537)) (fun _ hk => trivial)⟩, ⟨qP⟩, ⟨qB⟩⟩
          ·rw [if_neg c44] at H
           have c44b0 := decide_eq_false c44
           clear c44
           by_cases c45 : 0 ≤ a1
           ·rw [if_pos c45] at H
            have c45b0 := decide_eq_true c45
            clear c45
            by_cases c46 : a1 < (t530.length : Int)
            ·rw [if_pos c46] at H
             have c46b0 := decide_eq_true c46
             clear c46
             have H' := Aside0.mk H
             clear H
             have p540 : 0 ≤ (a1 : Int) := qD
             have q540 : a1 < (t530.length : Int) := qD
             obtain ⟨ad540, A540_3, c540_3, e540, hx540_0, hx540_1, hx540_2, hx540_3, hl540_3, hi540_3⟩ := at_T65 (Kd.S_reads' HO532.out).2.2 a1 p540 q540
             cases e540
             have hn540_0 : ad540.block ≠ gb539 := Kd.own_blk (Kd.S_ne HO532.out BK539.out (by decide))
             have hn540_1 : ad540.block ≠ gb539 := Kd.own_blk (Kd.S_ne HO532.out BK539.out (by decide))
             have hn540_2 : ad540.block ≠ gb539 := Kd.own_blk (Kd.S_ne HO532.out BK539.out (by decide))
             have hn540_3 : ad540.block ≠ gb539 := Kd.own_blk (Kd.S_ne HO532.out BK539.out (by decide))
             have HR540_3 := Aside0.mk hi540_3
             have HC540_3 := Aside0.mk hl540_3
             clear hi540_3 hl540_3
             replace hx540_0 := cfa ⟨gb539, 0, none⟩ (.int .i64 t534) hx540_0
             replace hx540_1 := cfa ⟨gb539, 0, none⟩ (.int .i64 t534) hx540_1
             replace hx540_2 := cfa ⟨gb539, 0, none⟩ (.int .i64 t534) hx540_2
             replace hx540_3 := cfa ⟨gb539, 0, none⟩ (.int .i64 t534) hx540_3
             replace hx540_0 := cfa ⟨gb539, 1, none⟩ (.int .i64 t535) hx540_0
             replace hx540_1 := cfa ⟨gb539, 1, none⟩ (.int .i64 t535) hx540_1
             replace hx540_2 := cfa ⟨gb539, 1, none⟩ (.int .i64 t535) hx540_2
             replace hx540_3 := cfa ⟨gb539, 1, none⟩ (.int .i64 t535) hx540_3
             replace hx540_0 := cfa ⟨gb539, 2, none⟩ (.string t536) hx540_0
             replace hx540_1 := cfa ⟨gb539, 2, none⟩ (.string t536) hx540_1
             replace hx540_2 := cfa ⟨gb539, 2, none⟩ (.string t536) hx540_2
             replace hx540_3 := cfa ⟨gb539, 2, none⟩ (.string t536) hx540_3
             replace hx540_0 := cfa ⟨gb539, 3, none⟩ (.int .i64 t537) hx540_0
             replace hx540_1 := cfa ⟨gb539, 3, none⟩ (.int .i64 t537) hx540_1
             replace hx540_2 := cfa ⟨gb539, 3, none⟩ (.int .i64 t537) hx540_2
             replace hx540_3 := cfa ⟨gb539, 3, none⟩ (.int .i64 t537) hx540_3
             clear hn540_0
             clear hn540_1
             clear hn540_2
             clear hn540_3
             replace p540 := eq_true p540
             replace q540 := eq_true q540
             go_wp2
             go_meet
             case rel => exact ⟨_, (decide (a3 ≥ ((rd_T65 t530 a1).f2))), (by first | rfl | (simp; done) | (simp [*]; done)), H', ⟨by have := HK1.out; first | omega | exact Nat.le_refl _⟩, ⟨by (with_reducible repeat (first | apply Kd.S_alloc | apply Kd.S_drewN | apply Kd.S_drew)); exact Kd.S_mono (Kd.S_far (p := ⟨gb539, 3, none⟩) (Kd.S_far (p := ⟨gb539, 2, none⟩) (Kd.S_far (p := ⟨gb539, 1, none⟩) (Kd.S_far (p := ⟨gb539, 0, none⟩) (Kd.S_mono HO_9.out (fun k_ hk => (⟨hk, hk.2⟩ : _ ∧ k_ ≠ gb539))) (fun _ hk => hk.2) (.int .i64 t534)) (fun _ hk => hk.2) (.int .i64 t535)) (fun _ hk => hk.2) (.string t536)) (fun _ hk => hk.2) (.int .i64 t537)) (fun _ hk => hk.1.2)⟩, ⟨by (with_reducible repeat (first | apply Kd.S_alloc | apply Kd.S_drewN | apply Kd.S_drew)); exact Kd.S_mono (Kd.S_far (p := ⟨gb539, 3, none⟩) (Kd.S_far (p := ⟨gb539, 2, none⟩) (Kd.S_far (p := ⟨gb539, 1, none⟩) (Kd.S_far (p := ⟨gb539, 0, none⟩) (Kd.S_types HO532.out BK539.out (by decide)) (fun _ hk => hk.2) (.int .i64 t534)) (fun _ hk => hk.2) (.int .i64 t535)) (fun _ hk => hk.2) (.string t536)) (fun _ hk => hk.2) (.int .i64 t537)) (fun _ hk => trivial)⟩, ⟨qP⟩, ⟨qB⟩⟩
            ·rw [if_neg c46] at H
             exact absurd H (by simp)
           ·rw [if_neg c45] at H
            exact absurd H (by simp)
       case rest =>
        clear HC34
        try clear c1
        try clear c2
        try clear p2 p2
        try clear c3
        try clear c4
        try clear c5
        try clear p5
        try clear q5
        try clear hx5
        try clear c6
        try clear p6
        try clear c8
        try clear c9
        try clear c13
        try clear c13b0
        try clear c14
        try clear c14b0
        try clear c15
        try clear c15b0
        try clear c16
        try clear c16b0
        try clear c16b1
        try clear c22
        try clear c22b0
        try clear c22b1
        try clear c32
        try clear c36
        try clear c37
        try clear c38
        try clear c39
        try clear c40
        try clear c41
        try clear c42
        try clear c42b0
        try clear c43
        try clear c43b0
        try clear c44
        try clear c44b0
        try clear c45
        try clear c45b0
        try clear c46
        try clear c46b0
        try clear hcz19_0 hcz19_1 hcz19_2 hcz19_3 hcz19_4 hcz19_5 hcz19_6 hfz19_0 hfz19_1 hfz19_2 hfz19_3 hfz19_4 hfz19_5 hfz19_6
        try clear hcz25_0 hcz25_1 hcz25_2 hcz25_3 hcz25_4 hcz25_5 hcz25_6 hfz25_0 hfz25_1 hfz25_2 hfz25_3 hfz25_4 hfz25_5 hfz25_6
        try clear hcz29_0 hcz29_1 hcz29_2 hcz29_3 hcz29_4 hcz29_5 hcz29_6 hfz29_0 hfz29_1 hfz29_2 hfz29_3 hfz29_4 hfz29_5 hfz29_6
        try clear hcz41_0 hcz41_1 hcz41_2 hcz41_3 hfz41_0 hfz41_1 hfz41_2 hfz41_3
        try clear hx519_0
        try clear hx519_1
        try clear hx519_2
        try clear hx519_3
        try clear hx519_4
        try clear hx519_5
        try clear hx519_6
        try clear hx540_0
        try clear hx540_1
        try clear hx540_2
        try clear hx540_3
        try clear p519
        try clear p540
        try clear q519
        try clear q540
        obtain ⟨kq, x87_33, rfl, HA, HJ33, HO_9, HO_12, BK539, HB⟩ := hcut
        cases kq with
        | zero => exact absurd HA.out (by simp [whirligiglaw22_TreeMoves.j1])
        | succ kj33 =>
         have H := HA.out
         clear HA
         simp only [whirligiglaw22_TreeMoves.j1] at H
         have HC47 := Aside0.mk H
         clear H
         go_upto_if 87 with (fail)
         go_cut [] (fun wc => ∃ (kq : Nat), Aside0 (whirligiglaw22_TreeMoves.j2 kq a1 a2 x9_1 t530 = some r) ∧ Aside0 (kq ≤ kj33) ∧ Aside0 (Kd.S k43 43 wc w.heap.size (fun k_ => k_ ≠ gb539) (.slice Ao35 x9_1.length co35) x9_1) ∧ Aside0 (Kd.S k65 65 wc w.heap.size (fun _ => True) (.slice Ao37 t530.length co37) t530) ∧ Aside0 (wc.heap[gb539]? = some (.cells #[.int .i64 t534, .int .i64 t535, .string t536, .int .i64 t537] 45 (0, 0))) ∧ Aside0 (Below w.heap.size w wc))
         case first =>
          have H := HC47.out
          clear HC47
          by_cases c48 : x87_33 = true
          ·subst c48
           rw [if_pos rfl] at H
           by_cases c49 : t538 = true
           ·subst c49
            rw [if_pos rfl] at H
            obtain rfl := Option.some.inj H
            go_wp2
            go_ret
            exact ⟨qR, qB⟩
           ·replace c49 := Bool.eq_false_iff.mpr c49
            subst c49
            rw [if_neg (show ¬ (false = true) by decide)] at H
            by_cases c50 : (!(t534 == 0) || (!(t535 == 0) || (!(t536.toList == ([] : List UInt8)) || (!(t537 == 0))))) = true
            ·rw [if_pos c50] at H
             have c50b0 : (!(t534 == 0) || (!(t535 == 0) || (!(t536.toList == ([] : List UInt8)) || (!(t537 == 0))))) = true := c50
             have c50b0z : (!(t534 == 0) || (!(t535 == 0) || (!(t536.toList.isEmpty) || (!(t537 == 0))))) = true := by simpa only [eq_nil_isEmpty] using c50b0
             clear c50
             (first | rw [c50b0] | (simp only [i64_w, i32_w]; rw [c50b0]) | skip)
             obtain rfl := Option.some.inj H
             obtain ⟨hcz51_0, hcz51_1, hcz51_2, hcz51_3, hfz51_0, hfz51_1, hfz51_2, hfz51_3⟩ := cells4 BK539.out
             go_wp2
             go_ret
             exact ⟨qR, qB⟩
            ·rw [if_neg c50] at H
             have c50b0 : (!(t534 == 0) || (!(t535 == 0) || (!(t536.toList == ([] : List UInt8)) || (!(t537 == 0))))) = false := by simpa using c50
             have c50b0z : (!(t534 == 0) || (!(t535 == 0) || (!(t536.toList.isEmpty) || (!(t537 == 0))))) = false := by simpa only [eq_nil_isEmpty] using c50b0
             clear c50
             (first | rw [c50b0] | (simp only [i64_w, i32_w]; rw [c50b0]) | skip)
             have H' := Aside0.mk H
             clear H
             obtain ⟨hcz52_0, hcz52_1, hcz52_2, hcz52_3, hfz52_0, hfz52_1, hfz52_2, hfz52_3⟩ := cells4 BK539.out
             go_wp2
             go_meet
             case rel => exact ⟨_, H', ⟨by have := HK1.out; have := HJ33.out; first | omega | exact Nat.le_refl _⟩, ⟨by (with_reducible repeat (first | apply Kd.S_alloc | apply Kd.S_drewN | apply Kd.S_drew)); exact HO_9.out⟩, ⟨by (with_reducible repeat (first | apply Kd.S_alloc | apply Kd.S_drewN | apply Kd.S_drew)); exact HO_12.out⟩, ⟨qK⟩, ⟨qB⟩⟩
          ·replace c48 := Bool.eq_false_iff.mpr c48
           subst c48
           rw [if_neg (show ¬ (false = true) by decide)] at H
           by_cases c53 : 0 ≤ a1
           ·rw [if_pos c53] at H
            have c53b0 := decide_eq_true c53
            clear c53
            by_cases c54 : a1 < (t530.length : Int)
            ·rw [if_pos c54] at H
             have c54b0 := decide_eq_true c54
             clear c54
             replace H := Option.bind_eq_some_iff.mp H
             obtain ⟨t542, A550, H⟩ := H
             (try dsimp -simprocs only at H)
             have A55 := Aside0.mk A550
             clear A550
             by_cases c56 : 0 ≤ a3
             ·rw [if_pos c56] at H
              have c56b0 := decide_eq_true c56
              clear c56
              by_cases c57 : a3 < (t542.length : Int)
              ·rw [if_pos c57] at H
               have c57b0 := decide_eq_true c57
               clear c57
               by_cases c58 : (t538 != (decide (((rd_T47 t542 a3).f1) > 0))) = true
               ·rw [if_pos c58] at H
                have c58b0 : (t538 != (decide (((rd_T47 t542 a3).f1) > 0))) = true := c58
                (try (have c58b1 : decide (t538 = (decide (((rd_T47 t542 a3).f1) > 0))) = false := by simpa using c58))
                (try (have c58b2 : (t538 == (decide (((rd_T47 t542 a3).f1) > 0))) = false := by simpa using c58))
                (try (have c58b3 : ¬ (t538 = (decide (((rd_T47 t542 a3).f1) > 0))) := by simpa using c58))
                clear c58
                obtain rfl := Option.some.inj H
                have p541 : 0 ≤ (a1 : Int) := qD
                have q541 : a1 < (t530.length : Int) := qD
                obtain ⟨ad541, A541_3, c541_3, e541, hx541_0, hx541_1, hx541_2, hx541_3, hl541_3, hi541_3⟩ := at_T65 (Kd.S_reads' HO_12.out).2.2 a1 p541 q541
                cases e541
                obtain ⟨ce541, hce541, hMe541, hcc541⟩ := Kd.S_get HO_12.out z65 a1 p541 (by first | exact q541 | exact qD | (have e_ := (Kd.S_reads' HO_12.out).1; omega))
                obtain ⟨ve541_3, rfl, ge541_3⟩ := k65_openM hMe541
                have hv541_3 := hcc541 3 _ rfl
                rw [add_field _ _ 3 (by omega)] at hv541_3
                replace hv541_3 := Option.some.inj (hv541_3.symm.trans hx541_3)
                rw [hv541_3] at ge541_3
                have HL541_3 := Aside0.mk (show Kd.R k47 47 _ _ _ _ ((rd_T65 t530 a1).f3) from ge541_3)
                clear hv541_3 ge541_3
                clear hcc541 hce541
                have HR541_3 := Aside0.mk hi541_3
                have HC541_3 := Aside0.mk hl541_3
                clear hi541_3 hl541_3
                replace p541 := eq_true p541
                replace q541 := eq_true q541
                go_wp2_with (first | (refine gl (some 98) #[.agg #[.int .i64 ((rd_T65 t530 a1).f0), .int .i64 ((rd_T65 t530 a1).f1), .int .i64 ((rd_T65 t530 a1).f2), .slice A541_3 ((rd_T65 t530 a1).f3).length c541_3]] Tryd.func43 ?_; (with_reducible refine (whirligigref22_Moves.calls kj33 ((rd_T65 t530 a1).f0) ((rd_T65 t530 a1).f1) ((rd_T65 t530 a1).f2) _ _ ((rd_T65 t530 a1).f3) t542 _ ?side1 ?side2 A55.out).mono ?_); (case side1 => repeat (first | exact (by repeat (first | (with_reducible exact HR541_3.out) | (with_reducible refine Kd.C_alloc ?_ _) | (with_reducible refine Kd.C_drewN ?_ _) | (with_reducible refine Kd.C_drew ?_) | exact HR541_3.out)) | (with_reducible refine Kd.C_alloc ?_ _) | (with_reducible refine Kd.C_drewN ?_ _) | (with_reducible refine Kd.C_drew ?_))); (case side2 => exact HC541_3.out); rintro e w59 ⟨v543, rfl, ho0, hb⟩; refine ⟨_, rfl, ?_⟩; have n0_ := Aside0.mk (Kd.S_below (by (with_reducible repeat (first | apply Kd.S_alloc | apply Kd.S_drewN | apply Kd.S_drew)); exact HO_9.out) hb); have n1_ := Aside0.mk (Kd.S_elder' (by (with_reducible repeat (first | apply Kd.S_alloc | apply Kd.S_drewN | apply Kd.S_drew)); exact HO_12.out) (Kd.R_base ho0) hb); have n2_ := Aside0.mk (Kd.R_elder' (by (with_reducible repeat (first | apply Kd.R_alloc | apply Kd.R_drewN | apply Kd.R_drew)); exact HL541_3.out) (Kd.R_base ho0) hb); have n3_ := Aside0.mk (Kd.R_lower (Kd.R_new' ho0 (Kd.R_lt (by (with_reducible repeat (first | apply Kd.R_alloc | apply Kd.R_drewN | apply Kd.R_drew)); exact HL541_3.out))) (below_size qB)); have n4_ := kb gb539 hb; have n5_ := Aside0.mk (Kd.C_below (by repeat (first | (with_reducible exact HR541_3.out) | (with_reducible refine Kd.C_alloc ?_ _) | (with_reducible refine Kd.C_drewN ?_ _) | (with_reducible refine Kd.C_drew ?_) | exact HR541_3.out)) hb); have n6_ := bst hb; clear HO_9; clear HO_12; clear HL541_3; clear BK539; clear HR541_3; clear HB; have HO_9 := n0_; have HO_12 := n1_; have HL541_3 := n2_; have HO544 := n3_; have BK539 := n4_; have HR541_3 := n5_; have HB := n6_; clear n0_ n1_ n2_ n3_ n4_ n5_ n6_; (try clear hb); (try clear ho0); obtain ⟨Ao60, co60, eo60⟩ := Kd.R_slice HO544.out; subst eo60; have p545 : 0 ≤ (a3 : Int) := qD; have q545 : a3 < (t542.length : Int) := qD; obtain ⟨ad545, e545, hx545_0, hx545_1, hx545_2, hx545_3⟩ := at_T47 (Kd.R_reads' HO544.out).2.2 a3 p545 q545; cases e545; replace p545 := eq_true p545; replace q545 := eq_true q545) | ((with_reducible refine gate_dst (N := 15) rfl ?_); (try (refine gate_guard (by rfl) ?_; dsimp only)); refine box_event ?hg (N := 15) ?hd (cs := #[.int .i64 0, .int .i64 0, .string (⟨#[]⟩ : ByteArray), .int .i64 0]) (t := 47) ?hr ?_; (case hd => rfl); (case hg => rfl); (case hr => first | (go_simp; done) | (go_simp; rfl)); intro gb546 hg w61 hbox hb; have n0_ := Aside0.mk (Kd.S_below (by (with_reducible repeat (first | apply Kd.S_alloc | apply Kd.S_drewN | apply Kd.S_drew)); exact HO_9.out) hb); have n1_ := Aside0.mk (Kd.S_below (Kd.S_elderB (by (with_reducible repeat (first | apply Kd.S_alloc | apply Kd.S_drewN | apply Kd.S_drew)); exact HO_12.out) gb546 (Nat.le_of_eq hg.symm)) hb); have n2_ := Aside0.mk (Kd.R_below (Kd.R_elderB (by (with_reducible repeat (first | apply Kd.R_alloc | apply Kd.R_drewN | apply Kd.R_drew)); exact HL541_3.out) gb546 (Nat.le_of_eq hg.symm)) hb); have n3_ := Aside0.mk (Kd.R_below (Kd.R_elderB (by (with_reducible repeat (first | apply Kd.R_alloc | apply Kd.R_drewN | apply Kd.R_drew)); exact HO544.out) gb546 (Nat.le_of_eq hg.symm)) hb); have n4_ := kb gb539 hb; have n5_ := Aside0.mk (Kd.C_below (by repeat (first | (with_reducible exact HR541_3.out) | (with_reducible refine Kd.C_alloc ?_ _) | (with_reducible refine Kd.C_drewN ?_ _) | (with_reducible refine Kd.C_drew ?_) | exact HR541_3.out)) hb); have n6_ := bst hb; have n7_ := Aside0.mk (hbox); have n8_ := geS hg; have n9_ := geS hg; have n10_ := neS gb539 hg; have n11_ := neT gb539 hg; clear HO_9; clear HO_12; clear HL541_3; clear HO544; clear BK539; clear HR541_3; clear HB; have HO_9 := n0_; have HO_12 := n1_; have HL541_3 := n2_; have HO544 := n3_; have BK539 := n4_; have HR541_3 := n5_; have HB := n6_; have BK546 := n7_; have GW546 := n8_; have GE546 := n9_; have NB539_546 := n10_; have NB546_539 := n11_; clear n0_ n1_ n2_ n3_ n4_ n5_ n6_ n7_ n8_ n9_ n10_ n11_; clear hb hbox hg; have hnb62 := NB546_539.out; have hnc62 := NB539_546.out; obtain ⟨hcz63_0, hcz63_1, hcz63_2, hcz63_3, hfz63_0, hfz63_1, hfz63_2, hfz63_3⟩ := cells4 BK546.out))
                go_ret
                exact ⟨qR, qB⟩
               ·rw [if_neg c58] at H
                have c58b0 : (t538 != (decide (((rd_T47 t542 a3).f1) > 0))) = false := by simpa using c58
                (try (have c58b1 : decide (t538 = (decide (((rd_T47 t542 a3).f1) > 0))) = true := by simpa using c58))
                (try (have c58b2 : (t538 == (decide (((rd_T47 t542 a3).f1) > 0))) = true := by simpa using c58))
                clear c58
                by_cases c64 : (!(t534 == ((rd_T47 t542 a3).f0)) || (!(t535 == ((rd_T47 t542 a3).f1)) || (!(t536.toList == (((rd_T47 t542 a3).f2).toList)) || (!(t537 == ((rd_T47 t542 a3).f3)))))) = true
                ·rw [if_pos c64] at H
                 have c64b0 : (!(t534 == ((rd_T47 t542 a3).f0)) || (!(t535 == ((rd_T47 t542 a3).f1)) || (!(t536.toList == (((rd_T47 t542 a3).f2).toList)) || (!(t537 == ((rd_T47 t542 a3).f3)))))) = true := c64
                 clear c64
                 obtain rfl := Option.some.inj H
                 have p541 : 0 ≤ (a1 : Int) := qD
                 have q541 : a1 < (t530.length : Int) := qD
                 obtain ⟨ad541, A541_3, c541_3, e541, hx541_0, hx541_1, hx541_2, hx541_3, hl541_3, hi541_3⟩ := at_T65 (Kd.S_reads' HO_12.out).2.2 a1 p541 q541
                 cases e541
                 obtain ⟨ce541, hce541, hMe541, hcc541⟩ := Kd.S_get HO_12.out z65 a1 p541 (by first | exact q541 | exact qD | (have e_ := (Kd.S_reads' HO_12.out).1; omega))
                 obtain ⟨ve541_3, rfl, ge541_3⟩ := k65_openM hMe541
                 have hv541_3 := hcc541 3 _ rfl
                 rw [add_field _ _ 3 (by omega)] at hv541_3
                 replace hv541_3 := Option.some.inj (hv541_3.symm.trans hx541_3)
                 rw [hv541_3] at ge541_3
                 have HL541_3 := Aside0.mk (show Kd.R k47 47 _ _ _ _ ((rd_T65 t530 a1).f3) from ge541_3)
                 clear hv541_3 ge541_3
                 clear hcc541 hce541
                 have HR541_3 := Aside0.mk hi541_3
                 have HC541_3 := Aside0.mk hl541_3
                 clear hi541_3 hl541_3
                 replace p541 := eq_true p541
                 replace q541 := eq_true q541
                 go_wp2_with (first | (refine gl (some 98) #[.agg #[.int .i64 ((rd_T65 t530 a1).f0), .int .i64 ((rd_T65 t530 a1).f1), .int .i64 ((rd_T65 t530 a1).f2), .slice A541_3 ((rd_T65 t530 a1).f3).length c541_3]] Tryd.func43 ?_; (with_reducible refine (whirligigref22_Moves.calls kj33 ((rd_T65 t530 a1).f0) ((rd_T65 t530 a1).f1) ((rd_T65 t530 a1).f2) _ _ ((rd_T65 t530 a1).f3) t542 _ ?side1 ?side2 A55.out).mono ?_); (case side1 => repeat (first | exact (by repeat (first | (with_reducible exact HR541_3.out) | (with_reducible refine Kd.C_alloc ?_ _) | (with_reducible refine Kd.C_drewN ?_ _) | (with_reducible refine Kd.C_drew ?_) | exact HR541_3.out)) | (with_reducible refine Kd.C_alloc ?_ _) | (with_reducible refine Kd.C_drewN ?_ _) | (with_reducible refine Kd.C_drew ?_))); (case side2 => exact HC541_3.out); rintro e w65 ⟨v543, rfl, ho0, hb⟩; refine ⟨_, rfl, ?_⟩; have n0_ := Aside0.mk (Kd.S_below (by (with_reducible repeat (first | apply Kd.S_alloc | apply Kd.S_drewN | apply Kd.S_drew)); exact HO_9.out) hb); have n1_ := Aside0.mk (Kd.S_elder' (by (with_reducible repeat (first | apply Kd.S_alloc | apply Kd.S_drewN | apply Kd.S_drew)); exact HO_12.out) (Kd.R_base ho0) hb); have n2_ := Aside0.mk (Kd.R_elder' (by (with_reducible repeat (first | apply Kd.R_alloc | apply Kd.R_drewN | apply Kd.R_drew)); exact HL541_3.out) (Kd.R_base ho0) hb); have n3_ := Aside0.mk (Kd.R_lower (Kd.R_new' ho0 (Kd.R_lt (by (with_reducible repeat (first | apply Kd.R_alloc | apply Kd.R_drewN | apply Kd.R_drew)); exact HL541_3.out))) (below_size qB)); have n4_ := kb gb539 hb; have n5_ := Aside0.mk (Kd.C_below (by repeat (first | (with_reducible exact HR541_3.out) | (with_reducible refine Kd.C_alloc ?_ _) | (with_reducible refine Kd.C_drewN ?_ _) | (with_reducible refine Kd.C_drew ?_) | exact HR541_3.out)) hb); have n6_ := bst hb; clear HO_9; clear HO_12; clear HL541_3; clear BK539; clear HR541_3; clear HB; have HO_9 := n0_; have HO_12 := n1_; have HL541_3 := n2_; have HO544 := n3_; have BK539 := n4_; have HR541_3 := n5_; have HB := n6_; clear n0_ n1_ n2_ n3_ n4_ n5_ n6_; (try clear hb); (try clear ho0); obtain ⟨Ao66, co66, eo66⟩ := Kd.R_slice HO544.out; subst eo66; have p545 : 0 ≤ (a3 : Int) := qD; have q545 : a3 < (t542.length : Int) := qD; obtain ⟨ad545, e545, hx545_0, hx545_1, hx545_2, hx545_3⟩ := at_T47 (Kd.R_reads' HO544.out).2.2 a3 p545 q545; cases e545; replace p545 := eq_true p545; replace q545 := eq_true q545) | ((with_reducible refine gate_dst (N := 15) rfl ?_); (try (refine gate_guard (by rfl) ?_; dsimp only)); refine box_event ?hg (N := 15) ?hd (cs := #[.int .i64 0, .int .i64 0, .string (⟨#[]⟩ : ByteArray), .int .i64 0]) (t := 47) ?hr ?_; (case hd => rfl); (case hg => rfl); (case hr => first | (go_simp; done) | (go_simp; rfl)); intro gb546 hg w67 hbox hb; have n0_ := Aside0.mk (Kd.S_below (by (with_reducible repeat (first | apply Kd.S_alloc | apply Kd.S_drewN | apply Kd.S_drew)); exact HO_9.out) hb); have n1_ := Aside0.mk (Kd.S_below (Kd.S_elderB (by (with_reducible repeat (first | apply Kd.S_alloc | apply Kd.S_drewN | apply Kd.S_drew)); exact HO_12.out) gb546 (Nat.le_of_eq hg.symm)) hb); have n2_ := Aside0.mk (Kd.R_below (Kd.R_elderB (by (with_reducible repeat (first | apply Kd.R_alloc | apply Kd.R_drewN | apply Kd.R_drew)); exact HL541_3.out) gb546 (Nat.le_of_eq hg.symm)) hb); have n3_ := Aside0.mk (Kd.R_below (Kd.R_elderB (by (with_reducible repeat (first | apply Kd.R_alloc | apply Kd.R_drewN | apply Kd.R_drew)); exact HO544.out) gb546 (Nat.le_of_eq hg.symm)) hb); have n4_ := kb gb539 hb; have n5_ := Aside0.mk (Kd.C_below (by repeat (first | (with_reducible exact HR541_3.out) | (with_reducible refine Kd.C_alloc ?_ _) | (with_reducible refine Kd.C_drewN ?_ _) | (with_reducible refine Kd.C_drew ?_) | exact HR541_3.out)) hb); have n6_ := bst hb; have n7_ := Aside0.mk (hbox); have n8_ := geS hg; have n9_ := geS hg; have n10_ := neS gb539 hg; have n11_ := neT gb539 hg; clear HO_9; clear HO_12; clear HL541_3; clear HO544; clear BK539; clear HR541_3; clear HB; have HO_9 := n0_; have HO_12 := n1_; have HL541_3 := n2_; have HO544 := n3_; have BK539 := n4_; have HR541_3 := n5_; have HB := n6_; have BK546 := n7_; have GW546 := n8_; have GE546 := n9_; have NB539_546 := n10_; have NB546_539 := n11_; clear n0_ n1_ n2_ n3_ n4_ n5_ n6_ n7_ n8_ n9_ n10_ n11_; clear hb hbox hg; have hnb68 := NB546_539.out; have hnc68 := NB539_546.out; obtain ⟨hcz69_0, hcz69_1, hcz69_2, hcz69_3, hfz69_0, hfz69_1, hfz69_2, hfz69_3⟩ := cells4 BK546.out; obtain ⟨hcz70_0, hcz70_1, hcz70_2, hcz70_3, hfz70_0, hfz70_1, hfz70_2, hfz70_3⟩ := cells4 BK539.out))
                 go_ret
                 exact ⟨qR, qB⟩
                ·rw [if_neg c64] at H
                 have c64b0 : (!(t534 == ((rd_T47 t542 a3).f0)) || (!(t535 == ((rd_T47 t542 a3).f1)) || (!(t536.toList == (((rd_T47 t542 a3).f2).toList)) || (!(t537 == ((rd_T47 t542 a3).f3)))))) = false := by simpa using c64
                 clear c64
                 have H' := Aside0.mk H
                 clear H
                 have p541 : 0 ≤ (a1 : Int) := qD
                 have q541 : a1 < (t530.length : Int) := qD
                 obtain ⟨ad541, A541_3, c541_3, e541, hx541_0, hx541_1, hx541_2, hx541_3, hl541_3, hi541_3⟩ := at_T65 (Kd.S_reads' HO_12.out).2.2 a1 p541 q541
                 cases e541
                 obtain ⟨ce541, hce541, hMe541, hcc541⟩ := Kd.S_get HO_12.out z65 a1 p541 (by first | exact q541 | exact qD | (have e_ := (Kd.S_reads' HO_12.out).1; omega))
                 obtain ⟨ve541_3, rfl, ge541_3⟩ := k65_openM hMe541
                 have hv541_3 := hcc541 3 _ rfl
                 rw [add_field _ _ 3 (by omega)] at hv541_3
                 replace hv541_3 := Option.some.inj (hv541_3.symm.trans hx541_3)
                 rw [hv541_3] at ge541_3
                 have HL541_3 := Aside0.mk (show Kd.R k47 47 _ _ _ _ ((rd_T65 t530 a1).f3) from ge541_3)
                 clear hv541_3 ge541_3
                 clear hcc541 hce541
                 have HR541_3 := Aside0.mk hi541_3
                 have HC541_3 := Aside0.mk hl541_3
                 clear hi541_3 hl541_3
                 replace p541 := eq_true p541
                 replace q541 := eq_true q541
                 go_wp2_with (first | (refine gl (some 98) #[.agg #[.int .i64 ((rd_T65 t530 a1).f0), .int .i64 ((rd_T65 t530 a1).f1), .int .i64 ((rd_T65 t530 a1).f2), .slice A541_3 ((rd_T65 t530 a1).f3).length c541_3]] Tryd.func43 ?_; (with_reducible refine (whirligigref22_Moves.calls kj33 ((rd_T65 t530 a1).f0) ((rd_T65 t530 a1).f1) ((rd_T65 t530 a1).f2) _ _ ((rd_T65 t530 a1).f3) t542 _ ?side1 ?side2 A55.out).mono ?_); (case side1 => repeat (first | exact (by repeat (first | (with_reducible exact HR541_3.out) | (with_reducible refine Kd.C_alloc ?_ _) | (with_reducible refine Kd.C_drewN ?_ _) | (with_reducible refine Kd.C_drew ?_) | exact HR541_3.out)) | (with_reducible refine Kd.C_alloc ?_ _) | (with_reducible refine Kd.C_drewN ?_ _) | (with_reducible refine Kd.C_drew ?_))); (case side2 => exact HC541_3.out); rintro e w71 ⟨v543, rfl, ho0, hb⟩; refine ⟨_, rfl, ?_⟩; have n0_ := Aside0.mk (Kd.S_below (by (with_reducible repeat (first | apply Kd.S_alloc | apply Kd.S_drewN | apply Kd.S_drew)); exact HO_9.out) hb); have n1_ := Aside0.mk (Kd.S_elder' (by (with_reducible repeat (first | apply Kd.S_alloc | apply Kd.S_drewN | apply Kd.S_drew)); exact HO_12.out) (Kd.R_base ho0) hb); have n2_ := Aside0.mk (Kd.R_elder' (by (with_reducible repeat (first | apply Kd.R_alloc | apply Kd.R_drewN | apply Kd.R_drew)); exact HL541_3.out) (Kd.R_base ho0) hb); have n3_ := Aside0.mk (Kd.R_lower (Kd.R_new' ho0 (Kd.R_lt (by (with_reducible repeat (first | apply Kd.R_alloc | apply Kd.R_drewN | apply Kd.R_drew)); exact HL541_3.out))) (below_size qB)); have n4_ := kb gb539 hb; have n5_ := Aside0.mk (Kd.C_below (by repeat (first | (with_reducible exact HR541_3.out) | (with_reducible refine Kd.C_alloc ?_ _) | (with_reducible refine Kd.C_drewN ?_ _) | (with_reducible refine Kd.C_drew ?_) | exact HR541_3.out)) hb); have n6_ := bst hb; clear HO_9; clear HO_12; clear HL541_3; clear BK539; clear HR541_3; clear HB; have HO_9 := n0_; have HO_12 := n1_; have HL541_3 := n2_; have HO544 := n3_; have BK539 := n4_; have HR541_3 := n5_; have HB := n6_; clear n0_ n1_ n2_ n3_ n4_ n5_ n6_; (try clear hb); (try clear ho0); obtain ⟨Ao72, co72, eo72⟩ := Kd.R_slice HO544.out; subst eo72; have p545 : 0 ≤ (a3 : Int) := qD; have q545 : a3 < (t542.length : Int) := qD; obtain ⟨ad545, e545, hx545_0, hx545_1, hx545_2, hx545_3⟩ := at_T47 (Kd.R_reads' HO544.out).2.2 a3 p545 q545; cases e545; replace p545 := eq_true p545; replace q545 := eq_true q545) | ((with_reducible refine gate_dst (N := 15) rfl ?_); (try (refine gate_guard (by rfl) ?_; dsimp only)); refine box_event ?hg (N := 15) ?hd (cs := #[.int .i64 0, .int .i64 0, .string (⟨#[]⟩ : ByteArray), .int .i64 0]) (t := 47) ?hr ?_; (case hd => rfl); (case hg => rfl); (case hr => first | (go_simp; done) | (go_simp; rfl)); intro gb546 hg w73 hbox hb; have n0_ := Aside0.mk (Kd.S_below (by (with_reducible repeat (first | apply Kd.S_alloc | apply Kd.S_drewN | apply Kd.S_drew)); exact HO_9.out) hb); have n1_ := Aside0.mk (Kd.S_below (Kd.S_elderB (by (with_reducible repeat (first | apply Kd.S_alloc | apply Kd.S_drewN | apply Kd.S_drew)); exact HO_12.out) gb546 (Nat.le_of_eq hg.symm)) hb); have n2_ := Aside0.mk (Kd.R_below (Kd.R_elderB (by (with_reducible repeat (first | apply Kd.R_alloc | apply Kd.R_drewN | apply Kd.R_drew)); exact HL541_3.out) gb546 (Nat.le_of_eq hg.symm)) hb); have n3_ := Aside0.mk (Kd.R_below (Kd.R_elderB (by (with_reducible repeat (first | apply Kd.R_alloc | apply Kd.R_drewN | apply Kd.R_drew)); exact HO544.out) gb546 (Nat.le_of_eq hg.symm)) hb); have n4_ := kb gb539 hb; have n5_ := Aside0.mk (Kd.C_below (by repeat (first | (with_reducible exact HR541_3.out) | (with_reducible refine Kd.C_alloc ?_ _) | (with_reducible refine Kd.C_drewN ?_ _) | (with_reducible refine Kd.C_drew ?_) | exact HR541_3.out)) hb); have n6_ := bst hb; have n7_ := Aside0.mk (hbox); have n8_ := geS hg; have n9_ := geS hg; have n10_ := neS gb539 hg; have n11_ := neT gb539 hg; clear HO_9; clear HO_12; clear HL541_3; clear HO544; clear BK539; clear HR541_3; clear HB; have HO_9 := n0_; have HO_12 := n1_; have HL541_3 := n2_; have HO544 := n3_; have BK539 := n4_; have HR541_3 := n5_; have HB := n6_; have BK546 := n7_; have GW546 := n8_; have GE546 := n9_; have NB539_546 := n10_; have NB546_539 := n11_; clear n0_ n1_ n2_ n3_ n4_ n5_ n6_ n7_ n8_ n9_ n10_ n11_; clear hb hbox hg; have hnb74 := NB546_539.out; have hnc74 := NB539_546.out; obtain ⟨hcz75_0, hcz75_1, hcz75_2, hcz75_3, hfz75_0, hfz75_1, hfz75_2, hfz75_3⟩ := cells4 BK546.out; obtain ⟨hcz76_0, hcz76_1, hcz76_2, hcz76_3, hfz76_0, hfz76_1, hfz76_2, hfz76_3⟩ := cells4 BK539.out))
                 go_meet
                 case rel => exact ⟨_, H', ⟨by have := HK1.out; have := HJ33.out; first | omega | exact Nat.le_refl _⟩, ⟨by (with_reducible repeat (first | apply Kd.S_alloc | apply Kd.S_drewN | apply Kd.S_drew)); exact Kd.S_mono (Kd.S_far (p := ⟨gb546, 3, none⟩) (Kd.S_far (p := ⟨gb546, 2, none⟩) (Kd.S_far (p := ⟨gb546, 1, none⟩) (Kd.S_far (p := ⟨gb546, 0, none⟩) (Kd.S_types HO_9.out BK546.out (by decide)) (fun _ hk => hk.2) (.int .i64 ((rd_T47 t542 a3).f0))) (fun _ hk => hk.2) (.int .i64 ((rd_T47 t542 a3).f1))) (fun _ hk => hk.2) (.string ((rd_T47 t542 a3).f2))) (fun _ hk => hk.2) (.int .i64 ((rd_T47 t542 a3).f3))) (fun _ hk => hk.1)⟩, ⟨by (with_reducible repeat (first | apply Kd.S_alloc | apply Kd.S_drewN | apply Kd.S_drew)); exact Kd.S_mono (Kd.S_far (p := ⟨gb546, 3, none⟩) (Kd.S_far (p := ⟨gb546, 2, none⟩) (Kd.S_far (p := ⟨gb546, 1, none⟩) (Kd.S_far (p := ⟨gb546, 0, none⟩) (Kd.S_mono HO_12.out (fun k_ hk => (⟨hk, hk.2⟩ : _ ∧ k_ ≠ gb546))) (fun _ hk => hk.2) (.int .i64 ((rd_T47 t542 a3).f0))) (fun _ hk => hk.2) (.int .i64 ((rd_T47 t542 a3).f1))) (fun _ hk => hk.2) (.string ((rd_T47 t542 a3).f2))) (fun _ hk => hk.2) (.int .i64 ((rd_T47 t542 a3).f3))) (fun _ hk => trivial)⟩, ⟨qK⟩, ⟨qB⟩⟩
              ·rw [if_neg c57] at H
               exact absurd H (by simp)
             ·rw [if_neg c56] at H
              exact absurd H (by simp)
            ·rw [if_neg c54] at H
             exact absurd H (by simp)
           ·rw [if_neg c53] at H
            exact absurd H (by simp)
         case rest =>
          clear HC47
          try clear c1
          try clear c2
          try clear p2 p2
          try clear c3
          try clear c4
          try clear c5
          try clear p5 p5
          try clear q5 q5
          try clear hx5
          try clear c6
          try clear p6 p6
          try clear c7
          try clear c8
          try clear c9
          try clear c13
          try clear c13b0
          try clear c14
          try clear c14b0
          try clear c15
          try clear c15b0
          try clear c16
          try clear c16b0
          try clear c16b1
          try clear c22
          try clear c22b0
          try clear c22b1
          try clear c32
          try clear c36
          try clear c37
          try clear c38
          try clear c39
          try clear c40
          try clear c41
          try clear c42
          try clear c42b0
          try clear c43
          try clear c43b0
          try clear c44
          try clear c44b0
          try clear c45
          try clear c45b0
          try clear c46
          try clear c46b0
          try clear c48
          try clear c49
          try clear c50
          try clear c50b0
          try clear p51
          try clear q51
          try clear hx51
          try clear c53
          try clear c53b0
          try clear c54
          try clear c54b0
          try clear p54
          try clear q54
          try clear hx54
          try clear c56
          try clear c56b0
          try clear c57
          try clear c57b0
          try clear c58
          try clear c58b0
          try clear c58b1
          try clear c58b2
          try clear c62
          try clear c64
          try clear c64b0
          try clear p64
          try clear c68
          try clear c74
          try clear hcz19_0 hcz19_1 hcz19_2 hcz19_3 hcz19_4 hcz19_5 hcz19_6 hfz19_0 hfz19_1 hfz19_2 hfz19_3 hfz19_4 hfz19_5 hfz19_6
          try clear hcz25_0 hcz25_1 hcz25_2 hcz25_3 hcz25_4 hcz25_5 hcz25_6 hfz25_0 hfz25_1 hfz25_2 hfz25_3 hfz25_4 hfz25_5 hfz25_6
          try clear hcz29_0 hcz29_1 hcz29_2 hcz29_3 hcz29_4 hcz29_5 hcz29_6 hfz29_0 hfz29_1 hfz29_2 hfz29_3 hfz29_4 hfz29_5 hfz29_6
          try clear hcz41_0 hcz41_1 hcz41_2 hcz41_3 hfz41_0 hfz41_1 hfz41_2 hfz41_3
          try clear hcz51_0 hcz51_1 hcz51_2 hcz51_3 hfz51_0 hfz51_1 hfz51_2 hfz51_3
          try clear hcz52_0 hcz52_1 hcz52_2 hcz52_3 hfz52_0 hfz52_1 hfz52_2 hfz52_3
          try clear hcz63_0 hcz63_1 hcz63_2 hcz63_3 hfz63_0 hfz63_1 hfz63_2 hfz63_3
          try clear hcz69_0 hcz69_1 hcz69_2 hcz69_3 hfz69_0 hfz69_1 hfz69_2 hfz69_3
          try clear hcz70_0 hcz70_1 hcz70_2 hcz70_3 hfz70_0 hfz70_1 hfz70_2 hfz70_3
          try clear hcz75_0 hcz75_1 hcz75_2 hcz75_3 hfz75_0 hfz75_1 hfz75_2 hfz75_3
          try clear hcz76_0 hcz76_1 hcz76_2 hcz76_3 hfz76_0 hfz76_1 hfz76_2 hfz76_3
          try clear hx519_0
          try clear hx519_1
          try clear hx519_2
          try clear hx519_3
          try clear hx519_4
          try clear hx519_5
          try clear hx519_6
          try clear hx540_0
          try clear hx540_1
          try clear hx540_2
          try clear hx540_3
          try clear hx541_0
          try clear hx541_1
          try clear hx541_2
          try clear hx541_3
          try clear hx545_0
          try clear hx545_1
          try clear hx545_2
          try clear hx545_3
          try clear p519
          try clear p540
          try clear p541
          try clear p545
          try clear q519
          try clear q540
          try clear q541
          try clear q545
          obtain ⟨kq, HA, HJ46, HO_9, HO_12, BK539, HB⟩ := hcut
          cases kq with
          | zero => exact absurd HA.out (by simp [whirligiglaw22_TreeMoves.j2])
          | succ kj46 =>
           have H := HA.out
           clear HA
           simp only [whirligiglaw22_TreeMoves.j2] at H
           replace H := Option.bind_eq_some_iff.mp H
           obtain ⟨t547, A770, H⟩ := H
           (try dsimp -simprocs only at H)
           have A77 := Aside0.mk A770
           clear A770
           have HC78 := Aside0.mk H
           clear H
           go_upto_region 26 with (first | (refine gl (some 115) #[.slice Ao35 x9_1.length co35, .int .i64 a1, .int .i64 a2] Tryd.func44 ?_; (with_reducible refine (tree_Tree_Common.calls kj46 _ _ x9_1 a1 a2 t547 _ ?side1 ?side2 A77.out).mono ?_); (case side1 => repeat (first | exact (Kd.S_reads' HO_9.out).2.2 | (with_reducible refine Kd.C_alloc ?_ _) | (with_reducible refine Kd.C_drewN ?_ _) | (with_reducible refine Kd.C_drew ?_))); (case side2 => exact (Kd.S_reads' HO_9.out).2.1); rintro e w79 ⟨rfl, hb⟩; refine ⟨_, rfl, ?_⟩; have n0_ := Aside0.mk (Kd.S_below (by (with_reducible repeat (first | apply Kd.S_alloc | apply Kd.S_drewN | apply Kd.S_drew)); exact HO_9.out) hb); have n1_ := Aside0.mk (Kd.S_below (by (with_reducible repeat (first | apply Kd.S_alloc | apply Kd.S_drewN | apply Kd.S_drew)); exact HO_12.out) hb); have n2_ := kb gb539 hb; have n3_ := bst hb; clear HO_9; clear HO_12; clear BK539; clear HB; have HO_9 := n0_; have HO_12 := n1_; have BK539 := n2_; have HB := n3_; clear n0_ n1_ n2_ n3_; (try clear hb)))
           (try simp only [Act.put, List.setIfInBounds_toArray, List.set_cons_zero, List.set_cons_succ])
           go_cut [133] (fun v133 wc => ∃ (kq : Nat) (x133_77 : Bool), v133 = .bool x133_77 ∧ Aside0 (whirligiglaw22_TreeMoves.j3 kq a1 a2 x9_1 t530 t547 x133_77 = some r) ∧ Aside0 (kq ≤ kj46) ∧ Aside0 (Kd.S k43 43 wc w.heap.size (fun k_ => k_ ≠ gb539) (.slice Ao35 x9_1.length co35) x9_1) ∧ Aside0 (Kd.S k65 65 wc w.heap.size (fun _ => True) (.slice Ao37 t530.length co37) t530) ∧ Aside0 (wc.heap[gb539]? = some (.cells #[.int .i64 t534, .int .i64 t535, .string t536, .int .i64 t537] 45 (0, 0))) ∧ Aside0 (Below w.heap.size w wc))
           case first =>
            have H := HC78.out
            clear HC78
            by_cases c80 : a1 < 0
            ·rw [if_pos c80] at H
             have c80b0 := decide_eq_true c80
             clear c80
             (first | rw [c80b0] | (simp only [i64_w, i32_w]; rw [c80b0]) | skip)
             have H' := Aside0.mk H
             clear H
             go_wp2
             go_meet
             case rel => exact ⟨_, (true), (by first | rfl | (simp; done) | (simp [*]; done)), H', ⟨by have := HK1.out; have := HJ33.out; have := HJ46.out; first | omega | exact Nat.le_refl _⟩, ⟨by (with_reducible repeat (first | apply Kd.S_alloc | apply Kd.S_drewN | apply Kd.S_drew)); exact HO_9.out⟩, ⟨by (with_reducible repeat (first | apply Kd.S_alloc | apply Kd.S_drewN | apply Kd.S_drew)); exact HO_12.out⟩, ⟨qK⟩, ⟨qB⟩⟩
            ·rw [if_neg c80] at H
             have c80b0 := decide_eq_false c80
             clear c80
             (first | rw [c80b0] | (simp only [i64_w, i32_w]; rw [c80b0]) | skip)
             by_cases c81 : a1 ≥ (t530.length : Int)
             ·rw [if_pos c81] at H
              have c81b0 := decide_eq_true c81
              clear c81
              have H' := Aside0.mk H
              clear H
              go_wp2
              go_meet
              case rel => exact ⟨_, (true), (by first | rfl | (simp; done) | (simp [*]; done)), H', ⟨by have := HK1.out; have := HJ33.out; have := HJ46.out; first | omega | exact Nat.le_refl _⟩, ⟨by (with_reducible repeat (first | apply Kd.S_alloc | apply Kd.S_drewN | apply Kd.S_drew)); exact HO_9.out⟩, ⟨by (with_reducible repeat (first | apply Kd.S_alloc | apply Kd.S_drewN | apply Kd.S_drew)); exact HO_12.out⟩, ⟨qK⟩, ⟨qB⟩⟩
             ·rw [if_neg c81] at H
              have c81b0 := decide_eq_false c81
              clear c81
              by_cases c82 : a2 < 0
              ·rw [if_pos c82] at H
               have c82b0 := decide_eq_true c82
               clear c82
               have H' := Aside0.mk H
               clear H
               go_wp2
               go_meet
               case rel => exact ⟨_, (true), (by first | rfl | (simp; done) | (simp [*]; done)), H', ⟨by have := HK1.out; have := HJ33.out; have := HJ46.out; first | omega | exact Nat.le_refl _⟩, ⟨by (with_reducible repeat (first | apply Kd.S_alloc | apply Kd.S_drewN | apply Kd.S_drew)); exact HO_9.out⟩, ⟨by (with_reducible repeat (first | apply Kd.S_alloc | apply Kd.S_drewN | apply Kd.S_drew)); exact HO_12.out⟩, ⟨qK⟩, ⟨qB⟩⟩
              ·rw [if_neg c82] at H
               have c82b0 := decide_eq_false c82
               clear c82
               have H' := Aside0.mk H
               clear H
               go_wp2
               go_meet
               case rel => exact ⟨_, (decide (a2 ≥ (t530.length : Int))), (by first | rfl | (simp; done) | (simp [*]; done)), H', ⟨by have := HK1.out; have := HJ33.out; have := HJ46.out; first | omega | exact Nat.le_refl _⟩, ⟨by (with_reducible repeat (first | apply Kd.S_alloc | apply Kd.S_drewN | apply Kd.S_drew)); exact HO_9.out⟩, ⟨by (with_reducible repeat (first | apply Kd.S_alloc | apply Kd.S_drewN | apply Kd.S_drew)); exact HO_12.out⟩, ⟨qK⟩, ⟨qB⟩⟩
           case rest =>
            clear HC78
            try clear c1
            try clear c2
            try clear p2 p2
            try clear c3
            try clear c4
            try clear c5
            try clear p5 p5
            try clear q5 q5
            try clear hx5
            try clear c6
            try clear p6 p6
            try clear c7
            try clear c8
            try clear c9
            try clear c13
            try clear c13b0
            try clear c14
            try clear c14b0
            try clear c15
            try clear c15b0
            try clear c16
            try clear c16b0
            try clear c16b1
            try clear c22
            try clear c22b0
            try clear c22b1
            try clear c32
            try clear c36
            try clear c37
            try clear c38
            try clear c39
            try clear c40
            try clear c41
            try clear c42
            try clear c42b0
            try clear c43
            try clear c43b0
            try clear c44
            try clear c44b0
            try clear c45
            try clear c45b0
            try clear c46
            try clear c46b0
            try clear c48
            try clear c49
            try clear c50
            try clear c50b0
            try clear p51 p51
            try clear q51 q51
            try clear hx51
            try clear c53
            try clear c53b0
            try clear c54
            try clear c54b0
            try clear p54 p54
            try clear q54 q54
            try clear hx54
            try clear c56
            try clear c56b0
            try clear c57
            try clear c57b0
            try clear c58
            try clear c58b0
            try clear c58b1
            try clear c58b2
            try clear c62
            try clear c64
            try clear c64b0
            try clear p64 p64
            try clear c68
            try clear c74
            try clear c80
            try clear c80b0
            try clear c81
            try clear c81b0
            try clear c82
            try clear c82b0
            try clear hcz19_0 hcz19_1 hcz19_2 hcz19_3 hcz19_4 hcz19_5 hcz19_6 hfz19_0 hfz19_1 hfz19_2 hfz19_3 hfz19_4 hfz19_5 hfz19_6
            try clear hcz25_0 hcz25_1 hcz25_2 hcz25_3 hcz25_4 hcz25_5 hcz25_6 hfz25_0 hfz25_1 hfz25_2 hfz25_3 hfz25_4 hfz25_5 hfz25_6
            try clear hcz29_0 hcz29_1 hcz29_2 hcz29_3 hcz29_4 hcz29_5 hcz29_6 hfz29_0 hfz29_1 hfz29_2 hfz29_3 hfz29_4 hfz29_5 hfz29_6
            try clear hcz41_0 hcz41_1 hcz41_2 hcz41_3 hfz41_0 hfz41_1 hfz41_2 hfz41_3
            try clear hcz51_0 hcz51_1 hcz51_2 hcz51_3 hfz51_0 hfz51_1 hfz51_2 hfz51_3
            try clear hcz52_0 hcz52_1 hcz52_2 hcz52_3 hfz52_0 hfz52_1 hfz52_2 hfz52_3
            try clear hcz63_0 hcz63_1 hcz63_2 hcz63_3 hfz63_0 hfz63_1 hfz63_2 hfz63_3
            try clear hcz69_0 hcz69_1 hcz69_2 hcz69_3 hfz69_0 hfz69_1 hfz69_2 hfz69_3
            try clear hcz70_0 hcz70_1 hcz70_2 hcz70_3 hfz70_0 hfz70_1 hfz70_2 hfz70_3
            try clear hcz75_0 hcz75_1 hcz75_2 hcz75_3 hfz75_0 hfz75_1 hfz75_2 hfz75_3
            try clear hcz76_0 hcz76_1 hcz76_2 hcz76_3 hfz76_0 hfz76_1 hfz76_2 hfz76_3
            try clear hx519_0
            try clear hx519_1
            try clear hx519_2
            try clear hx519_3
            try clear hx519_4
            try clear hx519_5
            try clear hx519_6
            try clear hx540_0
            try clear hx540_1
            try clear hx540_2
            try clear hx540_3
            try clear hx541_0
            try clear hx541_1
            try clear hx541_2
            try clear hx541_3
            try clear hx545_0
            try clear hx545_1
            try clear hx545_2
            try clear hx545_3
            try clear p519
            try clear p540
            try clear p541
            try clear p545
            try clear q519
            try clear q540
            try clear q541
            try clear q545
            obtain ⟨kq, x133_77, rfl, HA, HJ77, HO_9, HO_12, BK539, HB⟩ := hcut
            cases kq with
            | zero => exact absurd HA.out (by simp [whirligiglaw22_TreeMoves.j3])
            | succ kj77 =>
             have H := HA.out
             clear HA
             simp only [whirligiglaw22_TreeMoves.j3] at H
             by_cases c83 : x133_77 = true
             ·subst c83
              rw [if_pos rfl] at H
              obtain rfl := Option.some.inj H
              go_wp2
              go_ret
              exact ⟨qR, qB⟩
             ·replace c83 := Bool.eq_false_iff.mpr c83
              subst c83
              rw [if_neg (show ¬ (false = true) by decide)] at H
              by_cases c84 : 0 ≤ a1
              ·rw [if_pos c84] at H
               have c84b0 := decide_eq_true c84
               clear c84
               by_cases c85 : a1 < (t530.length : Int)
               ·rw [if_pos c85] at H
                have c85b0 := decide_eq_true c85
                clear c85
                by_cases c86 : 0 ≤ a2
                ·rw [if_pos c86] at H
                 have c86b0 := decide_eq_true c86
                 clear c86
                 by_cases c87 : a2 < (t530.length : Int)
                 ·rw [if_pos c87] at H
                  have c87b0 := decide_eq_true c87
                  clear c87
                  replace H := Option.bind_eq_some_iff.mp H
                  obtain ⟨t550, A880, H⟩ := H
                  (try dsimp -simprocs only at H)
                  have A88 := Aside0.mk A880
                  clear A880
                  by_cases c89 : t547 = t550
                  ·rw [if_pos c89] at H
                   have c89b0 := beq_iff_eq.mpr c89
                   have c89b1 := bne_eq_false_iff_eq.mpr c89
                   clear c89
                   replace H := Option.bind_eq_some_iff.mp H
                   obtain ⟨t551, A900, H⟩ := H
                   (try dsimp -simprocs only at H)
                   have A90 := Aside0.mk A900
                   clear A900
                   obtain rfl := Option.some.inj H
                   try go_wp2
                   replace BK539 := Aside0.mk (blk_drew BK539.out)
                   replace HO_9 := Aside0.mk (Kd.S_drew HO_9.out)
                   replace HO_12 := Aside0.mk (Kd.S_drew HO_12.out)
                   replace HB := Aside0.mk (below_drew1 HB.out)
                   have p548 : 0 ≤ (a1 : Int) := qD
                   have q548 : a1 < (t530.length : Int) := qD
                   obtain ⟨ad548, A548_3, c548_3, e548, hx548_0, hx548_1, hx548_2, hx548_3, hl548_3, hi548_3⟩ := at_T65 (Kd.S_reads' HO_12.out).2.2 a1 p548 q548
                   cases e548
                   obtain ⟨ce548, hce548, hMe548, hcc548⟩ := Kd.S_get HO_12.out z65 a1 p548 (by first | exact q548 | exact qD | (have e_ := (Kd.S_reads' HO_12.out).1; omega))
                   obtain ⟨ve548_3, rfl, ge548_3⟩ := k65_openM hMe548
                   have hv548_3 := hcc548 3 _ rfl
                   rw [add_field _ _ 3 (by omega)] at hv548_3
                   replace hv548_3 := Option.some.inj (hv548_3.symm.trans hx548_3)
                   rw [hv548_3] at ge548_3
                   have HL548_3 := Aside0.mk (show Kd.R k47 47 _ _ _ _ ((rd_T65 t530 a1).f3) from ge548_3)
                   clear hv548_3 ge548_3
                   clear hcc548 hce548
                   have HR548_3 := Aside0.mk hi548_3
                   have HC548_3 := Aside0.mk hl548_3
                   clear hi548_3 hl548_3
                   replace p548 := eq_true p548
                   replace q548 := eq_true q548
                   have p549 : 0 ≤ (a2 : Int) := qD
                   have q549 : a2 < (t530.length : Int) := qD
                   obtain ⟨ad549, A549_3, c549_3, e549, hx549_0, hx549_1, hx549_2, hx549_3, hl549_3, hi549_3⟩ := at_T65 (Kd.S_reads' HO_12.out).2.2 a2 p549 q549
                   obtain rfl : ad548 = ad549 := (by injection e549)
                   obtain ⟨ce549, hce549, hMe549, hcc549⟩ := Kd.S_get HO_12.out z65 a2 p549 (by first | exact q549 | exact qD | (have e_ := (Kd.S_reads' HO_12.out).1; omega))
                   obtain ⟨ve549_3, rfl, ge549_3⟩ := k65_openM hMe549
                   have hv549_3 := hcc549 3 _ rfl
                   rw [add_field _ _ 3 (by omega)] at hv549_3
                   replace hv549_3 := Option.some.inj (hv549_3.symm.trans hx549_3)
                   rw [hv549_3] at ge549_3
                   have HL549_3 := Aside0.mk (show Kd.R k47 47 _ _ _ _ ((rd_T65 t530 a2).f3) from ge549_3)
                   clear hv549_3 ge549_3
                   clear hcc549 hce549
                   have HR549_3 := Aside0.mk hi549_3
                   have HC549_3 := Aside0.mk hl549_3
                   clear hi549_3 hl549_3
                   replace p549 := eq_true p549
                   replace q549 := eq_true q549
                   refine start_ (n := 20) (S := fun w' => w'.cell? (ad548.add ((a1).toNat * 4)) = some (.int .i64 ((rd_T65 t530 a1).f0)) ∧ w'.cell? ⟨(ad548.add ((a1).toNat * 4)).block, (ad548.add ((a1).toNat * 4)).off + 1, none⟩ = some (.int .i64 ((rd_T65 t530 a1).f1)) ∧ w'.cell? ⟨(ad548.add ((a1).toNat * 4)).block, (ad548.add ((a1).toNat * 4)).off + 2, none⟩ = some (.int .i64 ((rd_T65 t530 a1).f2)) ∧ w'.cell? ⟨(ad548.add ((a1).toNat * 4)).block, (ad548.add ((a1).toNat * 4)).off + 3, none⟩ = some (.slice A548_3 ((rd_T65 t530 a1).f3).length c548_3) ∧ w'.cell? (ad548.add ((a2).toNat * 4)) = some (.int .i64 ((rd_T65 t530 a2).f0)) ∧ w'.cell? ⟨(ad548.add ((a2).toNat * 4)).block, (ad548.add ((a2).toNat * 4)).off + 1, none⟩ = some (.int .i64 ((rd_T65 t530 a2).f1)) ∧ w'.cell? ⟨(ad548.add ((a2).toNat * 4)).block, (ad548.add ((a2).toNat * 4)).off + 2, none⟩ = some (.int .i64 ((rd_T65 t530 a2).f2)) ∧ w'.cell? ⟨(ad548.add ((a2).toNat * 4)).block, (ad548.add ((a2).toNat * 4)).off + 3, none⟩ = some (.slice A549_3 ((rd_T65 t530 a2).f3).length c549_3)) (ds := []) #[false, false, false, false, false, false, false, false, false, false, false, false, false, false, false, false, false, false, false, false] (by kernel_rfl) rfl rfl ⟨hx548_0, hx548_1, hx548_2, hx548_3, hx549_0, hx549_1, hx549_2, hx549_3⟩ (fun hHeld => ?_); refine with_tabW whirligiglaw22_TreeMoves.tab28 whirligiglaw22_TreeMoves.bits28 (fun HT_ HW_ => ?_)
                   generalize wc.drew = w91 at HO_9 HO_12 BK539 HB HL548_3 HL549_3 HR548_3 HR549_3 hx548_0 hx548_1 hx548_2 hx548_3 hx549_0 hx549_1 hx549_2 hx549_3 hHeld ⊢
                   refine pu 0 136 ?_; refine pu 1 137 ?_
                   refine pu 2 138 ?_; refine pu 3 139 ?_
                   refine pu 5 141 ?_; refine pu 6 142 ?_
                   refine pu 7 143 ?_; refine tk 4 140 ?_; refine tk 8 144 ?_
                   refine onx 9 145 (fun K hK => ?_)
                   refine goes_ Tryd.func45 (by kernel_rfl) rfl #[.agg #[.int .i64 ((rd_T65 t530 a1).f0), .int .i64 ((rd_T65 t530 a1).f1), .int .i64 ((rd_T65 t530 a1).f2), .slice A548_3 ((rd_T65 t530 a1).f3).length c548_3], .agg #[.int .i64 ((rd_T65 t530 a2).f0), .int .i64 ((rd_T65 t530 a2).f1), .int .i64 ((rd_T65 t530 a2).f2), .slice A549_3 ((rd_T65 t530 a2).f3).length c549_3]] (by rfl) rfl rfl (by (try simp only [List.map_toArray, List.map_cons, List.map_nil]); first | done | rfl | (simp only [List.length_drop, List.length_take]; rfl)) ?_
                   with_reducible refine (whirligigref22_Common.calls kj77 ((rd_T65 t530 a1).f0) ((rd_T65 t530 a1).f1) ((rd_T65 t530 a1).f2) _ _ ((rd_T65 t530 a1).f3) ((rd_T65 t530 a2).f0) ((rd_T65 t530 a2).f1) ((rd_T65 t530 a2).f2) _ _ ((rd_T65 t530 a2).f3) t550 _ ?side1 ?side2 ?side3 ?side4 A88.out).mono ?_
                   (case side1 => repeat (first | exact (by repeat (first | (with_reducible exact HR548_3.out) | (with_reducible refine Kd.C_alloc ?_ _) | (with_reducible refine Kd.C_drewN ?_ _) | (with_reducible refine Kd.C_drew ?_) | exact HR548_3.out)) | (with_reducible refine Kd.C_alloc ?_ _) | (with_reducible refine Kd.C_drewN ?_ _) | (with_reducible refine Kd.C_drew ?_)))
                   (case side2 => exact HC548_3.out)
                   (case side3 => repeat (first | exact (by repeat (first | (with_reducible exact HR549_3.out) | (with_reducible refine Kd.C_alloc ?_ _) | (with_reducible refine Kd.C_drewN ?_ _) | (with_reducible refine Kd.C_drew ?_) | exact HR549_3.out)) | (with_reducible refine Kd.C_alloc ?_ _) | (with_reducible refine Kd.C_drewN ?_ _) | (with_reducible refine Kd.C_drew ?_)))
                   (case side4 => exact HC549_3.out)
                   rintro e w92 ⟨rfl, hb⟩
                   have HS0_ := (hb.cell (World.block_lt_of_cell? _ _ (hHeld.1))).trans (hHeld.1)
                   have HS1_ := (hb.cell (World.block_lt_of_cell? _ _ (hHeld.2.1))).trans (hHeld.2.1)
                   have HS2_ := (hb.cell (World.block_lt_of_cell? _ _ (hHeld.2.2.1))).trans (hHeld.2.2.1)
                   have HS3_ := (hb.cell (World.block_lt_of_cell? _ _ (hHeld.2.2.2.1))).trans (hHeld.2.2.2.1)
                   have HS4_ := (hb.cell (World.block_lt_of_cell? _ _ (hHeld.2.2.2.2.1))).trans (hHeld.2.2.2.2.1)
                   have HS5_ := (hb.cell (World.block_lt_of_cell? _ _ (hHeld.2.2.2.2.2.1))).trans (hHeld.2.2.2.2.2.1)
                   have HS6_ := (hb.cell (World.block_lt_of_cell? _ _ (hHeld.2.2.2.2.2.2.1))).trans (hHeld.2.2.2.2.2.2.1)
                   have HS7_ := (hb.cell (World.block_lt_of_cell? _ _ (hHeld.2.2.2.2.2.2.2))).trans (hHeld.2.2.2.2.2.2.2)
                   refine ⟨_, rfl, ?_⟩
                   replace BK539 := kb gb539 hb
                   replace HO_9 := Aside0.mk (Kd.S_below (by (with_reducible repeat (first | apply Kd.S_alloc | apply Kd.S_drewN | apply Kd.S_drew)); exact HO_9.out) hb)
                   replace HO_12 := Aside0.mk (Kd.S_below (by (with_reducible repeat (first | apply Kd.S_alloc | apply Kd.S_drewN | apply Kd.S_drew)); exact HO_12.out) hb)
                   replace HL548_3 := Aside0.mk (Kd.R_below (by (with_reducible repeat (first | apply Kd.R_alloc | apply Kd.R_drewN | apply Kd.R_drew)); exact HL548_3.out) hb)
                   replace HL549_3 := Aside0.mk (Kd.R_below (by (with_reducible repeat (first | apply Kd.R_alloc | apply Kd.R_drewN | apply Kd.R_drew)); exact HL549_3.out) hb)
                   replace HR548_3 := Aside0.mk (Kd.C_below (by repeat (first | (with_reducible exact HR548_3.out) | (with_reducible refine Kd.C_alloc ?_ _) | (with_reducible refine Kd.C_drewN ?_ _) | (with_reducible refine Kd.C_drew ?_) | exact HR548_3.out)) hb)
                   replace HR549_3 := Aside0.mk (Kd.C_below (by repeat (first | (with_reducible exact HR549_3.out) | (with_reducible refine Kd.C_alloc ?_ _) | (with_reducible refine Kd.C_drewN ?_ _) | (with_reducible refine Kd.C_drew ?_) | exact HR549_3.out)) hb)
                   replace HB := bst hb
                   (try clear hb)
                   (try clear hb2)
                   (try clear hk)
                   (try clear hi)
                   refine hK.out _ _ ⟨HS0_, HS1_, HS2_, HS3_, HS4_, HS5_, HS6_, HS7_⟩ (fun hHeld => ?_)
                   clear hK K
                   refine nm 145 ?_
                   refine pu 10 146 ?_; refine pu 11 147 ?_
                   refine pu 12 148 ?_; refine pu 13 149 ?_
                   refine pu 14 150 ?_; refine pu 16 152 ?_
                   refine onx 15 151 (fun K hK => ?_)
                   refine goes_ Tryd.func44 (by kernel_rfl) rfl #[.slice Ao35 x9_1.length co35, .int .i64 a2, .int .i64 a1] (by rfl) rfl rfl (by (try simp only [List.map_toArray, List.map_cons, List.map_nil]); first | done | rfl | (simp only [List.length_drop, List.length_take]; rfl)) ?_
                   with_reducible refine (tree_Tree_Common.calls kj77 _ _ x9_1 a2 a1 t551 _ ?side1 ?side2 A90.out).mono ?_
                   (case side1 => repeat (first | exact (Kd.S_reads' HO_9.out).2.2 | (with_reducible refine Kd.C_alloc ?_ _) | (with_reducible refine Kd.C_drewN ?_ _) | (with_reducible refine Kd.C_drew ?_)))
                   (case side2 => exact (Kd.S_reads' HO_9.out).2.1)
                   rintro e w93 ⟨rfl, hb⟩
                   have HS0_ := (hb.cell (World.block_lt_of_cell? _ _ (hHeld.1))).trans (hHeld.1)
                   have HS1_ := (hb.cell (World.block_lt_of_cell? _ _ (hHeld.2.1))).trans (hHeld.2.1)
                   have HS2_ := (hb.cell (World.block_lt_of_cell? _ _ (hHeld.2.2.1))).trans (hHeld.2.2.1)
                   have HS3_ := (hb.cell (World.block_lt_of_cell? _ _ (hHeld.2.2.2.1))).trans (hHeld.2.2.2.1)
                   have HS4_ := (hb.cell (World.block_lt_of_cell? _ _ (hHeld.2.2.2.2.1))).trans (hHeld.2.2.2.2.1)
                   have HS5_ := (hb.cell (World.block_lt_of_cell? _ _ (hHeld.2.2.2.2.2.1))).trans (hHeld.2.2.2.2.2.1)
                   have HS6_ := (hb.cell (World.block_lt_of_cell? _ _ (hHeld.2.2.2.2.2.2.1))).trans (hHeld.2.2.2.2.2.2.1)
                   have HS7_ := (hb.cell (World.block_lt_of_cell? _ _ (hHeld.2.2.2.2.2.2.2))).trans (hHeld.2.2.2.2.2.2.2)
                   refine ⟨_, rfl, ?_⟩
                   replace BK539 := kb gb539 hb
                   replace HO_9 := Aside0.mk (Kd.S_below (by (with_reducible repeat (first | apply Kd.S_alloc | apply Kd.S_drewN | apply Kd.S_drew)); exact HO_9.out) hb)
                   replace HO_12 := Aside0.mk (Kd.S_below (by (with_reducible repeat (first | apply Kd.S_alloc | apply Kd.S_drewN | apply Kd.S_drew)); exact HO_12.out) hb)
                   replace HL548_3 := Aside0.mk (Kd.R_below (by (with_reducible repeat (first | apply Kd.R_alloc | apply Kd.R_drewN | apply Kd.R_drew)); exact HL548_3.out) hb)
                   replace HL549_3 := Aside0.mk (Kd.R_below (by (with_reducible repeat (first | apply Kd.R_alloc | apply Kd.R_drewN | apply Kd.R_drew)); exact HL549_3.out) hb)
                   replace HR548_3 := Aside0.mk (Kd.C_below (by repeat (first | (with_reducible exact HR548_3.out) | (with_reducible refine Kd.C_alloc ?_ _) | (with_reducible refine Kd.C_drewN ?_ _) | (with_reducible refine Kd.C_drew ?_) | exact HR548_3.out)) hb)
                   replace HR549_3 := Aside0.mk (Kd.C_below (by repeat (first | (with_reducible exact HR549_3.out) | (with_reducible refine Kd.C_alloc ?_ _) | (with_reducible refine Kd.C_drewN ?_ _) | (with_reducible refine Kd.C_drew ?_) | exact HR549_3.out)) hb)
                   replace HB := bst hb
                   (try clear hb)
                   (try clear hb2)
                   (try clear hk)
                   (try clear hi)
                   refine hK.out _ _ ⟨HS0_, HS1_, HS2_, HS3_, HS4_, HS5_, HS6_, HS7_⟩ (fun hHeld => ?_)
                   clear hK K
                   refine nm 151 ?_
                   refine pu 17 153 ?_; refine pu 18 154 ?_; refine pu 19 8 ?_
                   refine done_ (done_of HT_.out (by kernel_rfl)) ?_
                   try go_wp2
                   go_ret
                   exact ⟨qR, qB⟩
                  ·rw [if_neg c89] at H
                   have c89b0 := beq_eq_false_iff_ne.mpr c89
                   have c89b1 := bne_iff_ne.mpr c89
                   obtain rfl := Option.some.inj H
                   try go_wp2
                   replace BK539 := Aside0.mk (blk_drew BK539.out)
                   replace HO_9 := Aside0.mk (Kd.S_drew HO_9.out)
                   replace HO_12 := Aside0.mk (Kd.S_drew HO_12.out)
                   replace HB := Aside0.mk (below_drew1 HB.out)
                   have p548 : 0 ≤ (a1 : Int) := qD
                   have q548 : a1 < (t530.length : Int) := qD
                   obtain ⟨ad548, A548_3, c548_3, e548, hx548_0, hx548_1, hx548_2, hx548_3, hl548_3, hi548_3⟩ := at_T65 (Kd.S_reads' HO_12.out).2.2 a1 p548 q548
                   cases e548
                   obtain ⟨ce548, hce548, hMe548, hcc548⟩ := Kd.S_get HO_12.out z65 a1 p548 (by first | exact q548 | exact qD | (have e_ := (Kd.S_reads' HO_12.out).1; omega))
                   obtain ⟨ve548_3, rfl, ge548_3⟩ := k65_openM hMe548
                   have hv548_3 := hcc548 3 _ rfl
                   rw [add_field _ _ 3 (by omega)] at hv548_3
                   replace hv548_3 := Option.some.inj (hv548_3.symm.trans hx548_3)
                   rw [hv548_3] at ge548_3
                   have HL548_3 := Aside0.mk (show Kd.R k47 47 _ _ _ _ ((rd_T65 t530 a1).f3) from ge548_3)
                   clear hv548_3 ge548_3
                   clear hcc548 hce548
                   have HR548_3 := Aside0.mk hi548_3
                   have HC548_3 := Aside0.mk hl548_3
                   clear hi548_3 hl548_3
                   replace p548 := eq_true p548
                   replace q548 := eq_true q548
                   have p549 : 0 ≤ (a2 : Int) := qD
                   have q549 : a2 < (t530.length : Int) := qD
                   obtain ⟨ad549, A549_3, c549_3, e549, hx549_0, hx549_1, hx549_2, hx549_3, hl549_3, hi549_3⟩ := at_T65 (Kd.S_reads' HO_12.out).2.2 a2 p549 q549
                   obtain rfl : ad548 = ad549 := (by injection e549)
                   obtain ⟨ce549, hce549, hMe549, hcc549⟩ := Kd.S_get HO_12.out z65 a2 p549 (by first | exact q549 | exact qD | (have e_ := (Kd.S_reads' HO_12.out).1; omega))
                   obtain ⟨ve549_3, rfl, ge549_3⟩ := k65_openM hMe549
                   have hv549_3 := hcc549 3 _ rfl
                   rw [add_field _ _ 3 (by omega)] at hv549_3
                   replace hv549_3 := Option.some.inj (hv549_3.symm.trans hx549_3)
                   rw [hv549_3] at ge549_3
                   have HL549_3 := Aside0.mk (show Kd.R k47 47 _ _ _ _ ((rd_T65 t530 a2).f3) from ge549_3)
                   clear hv549_3 ge549_3
                   clear hcc549 hce549
                   have HR549_3 := Aside0.mk hi549_3
                   have HC549_3 := Aside0.mk hl549_3
                   clear hi549_3 hl549_3
                   replace p549 := eq_true p549
                   replace q549 := eq_true q549
                   refine start_ (n := 20) (S := fun w' => w'.cell? (ad548.add ((a1).toNat * 4)) = some (.int .i64 ((rd_T65 t530 a1).f0)) ∧ w'.cell? ⟨(ad548.add ((a1).toNat * 4)).block, (ad548.add ((a1).toNat * 4)).off + 1, none⟩ = some (.int .i64 ((rd_T65 t530 a1).f1)) ∧ w'.cell? ⟨(ad548.add ((a1).toNat * 4)).block, (ad548.add ((a1).toNat * 4)).off + 2, none⟩ = some (.int .i64 ((rd_T65 t530 a1).f2)) ∧ w'.cell? ⟨(ad548.add ((a1).toNat * 4)).block, (ad548.add ((a1).toNat * 4)).off + 3, none⟩ = some (.slice A548_3 ((rd_T65 t530 a1).f3).length c548_3) ∧ w'.cell? (ad548.add ((a2).toNat * 4)) = some (.int .i64 ((rd_T65 t530 a2).f0)) ∧ w'.cell? ⟨(ad548.add ((a2).toNat * 4)).block, (ad548.add ((a2).toNat * 4)).off + 1, none⟩ = some (.int .i64 ((rd_T65 t530 a2).f1)) ∧ w'.cell? ⟨(ad548.add ((a2).toNat * 4)).block, (ad548.add ((a2).toNat * 4)).off + 2, none⟩ = some (.int .i64 ((rd_T65 t530 a2).f2)) ∧ w'.cell? ⟨(ad548.add ((a2).toNat * 4)).block, (ad548.add ((a2).toNat * 4)).off + 3, none⟩ = some (.slice A549_3 ((rd_T65 t530 a2).f3).length c549_3)) (ds := []) #[false, false, false, false, false, false, false, false, false, false, false, false, false, false, false, false, false, false, false, false] (by kernel_rfl) rfl rfl ⟨hx548_0, hx548_1, hx548_2, hx548_3, hx549_0, hx549_1, hx549_2, hx549_3⟩ (fun hHeld => ?_); refine with_tabW whirligiglaw22_TreeMoves.tab28 whirligiglaw22_TreeMoves.bits28 (fun HT_ HW_ => ?_)
                   generalize wc.drew = w94 at HO_9 HO_12 BK539 HB HL548_3 HL549_3 HR548_3 HR549_3 hx548_0 hx548_1 hx548_2 hx548_3 hx549_0 hx549_1 hx549_2 hx549_3 hHeld ⊢
                   refine pu 0 136 ?_; refine pu 1 137 ?_
                   refine pu 2 138 ?_; refine pu 3 139 ?_
                   refine pu 5 141 ?_; refine pu 6 142 ?_
                   refine pu 7 143 ?_; refine tk 4 140 ?_; refine tk 8 144 ?_
                   refine onx 9 145 (fun K hK => ?_)
                   refine goes_ Tryd.func45 (by kernel_rfl) rfl #[.agg #[.int .i64 ((rd_T65 t530 a1).f0), .int .i64 ((rd_T65 t530 a1).f1), .int .i64 ((rd_T65 t530 a1).f2), .slice A548_3 ((rd_T65 t530 a1).f3).length c548_3], .agg #[.int .i64 ((rd_T65 t530 a2).f0), .int .i64 ((rd_T65 t530 a2).f1), .int .i64 ((rd_T65 t530 a2).f2), .slice A549_3 ((rd_T65 t530 a2).f3).length c549_3]] (by rfl) rfl rfl (by (try simp only [List.map_toArray, List.map_cons, List.map_nil]); first | done | rfl | (simp only [List.length_drop, List.length_take]; rfl)) ?_
                   with_reducible refine (whirligigref22_Common.calls kj77 ((rd_T65 t530 a1).f0) ((rd_T65 t530 a1).f1) ((rd_T65 t530 a1).f2) _ _ ((rd_T65 t530 a1).f3) ((rd_T65 t530 a2).f0) ((rd_T65 t530 a2).f1) ((rd_T65 t530 a2).f2) _ _ ((rd_T65 t530 a2).f3) t550 _ ?side1 ?side2 ?side3 ?side4 A88.out).mono ?_
                   (case side1 => repeat (first | exact (by repeat (first | (with_reducible exact HR548_3.out) | (with_reducible refine Kd.C_alloc ?_ _) | (with_reducible refine Kd.C_drewN ?_ _) | (with_reducible refine Kd.C_drew ?_) | exact HR548_3.out)) | (with_reducible refine Kd.C_alloc ?_ _) | (with_reducible refine Kd.C_drewN ?_ _) | (with_reducible refine Kd.C_drew ?_)))
                   (case side2 => exact HC548_3.out)
                   (case side3 => repeat (first | exact (by repeat (first | (with_reducible exact HR549_3.out) | (with_reducible refine Kd.C_alloc ?_ _) | (with_reducible refine Kd.C_drewN ?_ _) | (with_reducible refine Kd.C_drew ?_) | exact HR549_3.out)) | (with_reducible refine Kd.C_alloc ?_ _) | (with_reducible refine Kd.C_drewN ?_ _) | (with_reducible refine Kd.C_drew ?_)))
                   (case side4 => exact HC549_3.out)
                   rintro e w95 ⟨rfl, hb⟩
                   have HS0_ := (hb.cell (World.block_lt_of_cell? _ _ (hHeld.1))).trans (hHeld.1)
                   have HS1_ := (hb.cell (World.block_lt_of_cell? _ _ (hHeld.2.1))).trans (hHeld.2.1)
                   have HS2_ := (hb.cell (World.block_lt_of_cell? _ _ (hHeld.2.2.1))).trans (hHeld.2.2.1)
                   have HS3_ := (hb.cell (World.block_lt_of_cell? _ _ (hHeld.2.2.2.1))).trans (hHeld.2.2.2.1)
                   have HS4_ := (hb.cell (World.block_lt_of_cell? _ _ (hHeld.2.2.2.2.1))).trans (hHeld.2.2.2.2.1)
                   have HS5_ := (hb.cell (World.block_lt_of_cell? _ _ (hHeld.2.2.2.2.2.1))).trans (hHeld.2.2.2.2.2.1)
                   have HS6_ := (hb.cell (World.block_lt_of_cell? _ _ (hHeld.2.2.2.2.2.2.1))).trans (hHeld.2.2.2.2.2.2.1)
                   have HS7_ := (hb.cell (World.block_lt_of_cell? _ _ (hHeld.2.2.2.2.2.2.2))).trans (hHeld.2.2.2.2.2.2.2)
                   refine ⟨_, rfl, ?_⟩
                   replace BK539 := kb gb539 hb
                   replace HO_9 := Aside0.mk (Kd.S_below (by (with_reducible repeat (first | apply Kd.S_alloc | apply Kd.S_drewN | apply Kd.S_drew)); exact HO_9.out) hb)
                   replace HO_12 := Aside0.mk (Kd.S_below (by (with_reducible repeat (first | apply Kd.S_alloc | apply Kd.S_drewN | apply Kd.S_drew)); exact HO_12.out) hb)
                   replace HL548_3 := Aside0.mk (Kd.R_below (by (with_reducible repeat (first | apply Kd.R_alloc | apply Kd.R_drewN | apply Kd.R_drew)); exact HL548_3.out) hb)
                   replace HL549_3 := Aside0.mk (Kd.R_below (by (with_reducible repeat (first | apply Kd.R_alloc | apply Kd.R_drewN | apply Kd.R_drew)); exact HL549_3.out) hb)
                   replace HR548_3 := Aside0.mk (Kd.C_below (by repeat (first | (with_reducible exact HR548_3.out) | (with_reducible refine Kd.C_alloc ?_ _) | (with_reducible refine Kd.C_drewN ?_ _) | (with_reducible refine Kd.C_drew ?_) | exact HR548_3.out)) hb)
                   replace HR549_3 := Aside0.mk (Kd.C_below (by repeat (first | (with_reducible exact HR549_3.out) | (with_reducible refine Kd.C_alloc ?_ _) | (with_reducible refine Kd.C_drewN ?_ _) | (with_reducible refine Kd.C_drew ?_) | exact HR549_3.out)) hb)
                   replace HB := bst hb
                   (try clear hb)
                   (try clear hb2)
                   (try clear hk)
                   (try clear hi)
                   refine hK.out _ _ ⟨HS0_, HS1_, HS2_, HS3_, HS4_, HS5_, HS6_, HS7_⟩ (fun hHeld => ?_)
                   clear hK K
                   refine nm 145 ?_
                   refine pu 10 146 ?_; refine pu 11 147 ?_
                   refine po 12 148 ?_; refine po 13 149 ?_
                   refine po 14 150 ?_; refine po 15 151 ?_
                   refine po 16 152 ?_; refine po 17 153 ?_
                   refine pu 18 154 ?_; refine pu 19 8 ?_
                   refine done_ (done_of HT_.out (by kernel_rfl)) ?_
                   try go_wp2
                   go_ret
                   exact ⟨qR, qB⟩
                 ·rw [if_neg c87] at H
                  exact absurd H (by simp)
                ·rw [if_neg c86] at H
                 exact absurd H (by simp)
               ·rw [if_neg c85] at H
                exact absurd H (by simp)
              ·rw [if_neg c84] at H
               exact absurd H (by simp)
      ·replace c32 := Bool.eq_false_iff.mpr c32
       subst c32
       rw [if_neg (show ¬ (false = true) by decide)] at H
       obtain rfl := Option.some.inj H
       obtain ⟨Ao96, co96, eo96⟩ := Kd.S_slice HO_9.out
       subst eo96
       go_wp2_with (first | (refine gl (some 56) #[.slice Ao96 x9_1.length co96] Tryd.func37 ?_; (with_reducible refine (whirligiglaw22_refs.calls k1 _ _ x9_1 t530 _ ?side1 ?side2 A30.out).mono ?_); (case side1 => repeat (first | exact (Kd.S_reads' HO_9.out).2.2 | (with_reducible refine Kd.C_alloc ?_ _) | (with_reducible refine Kd.C_drewN ?_ _) | (with_reducible refine Kd.C_drew ?_))); (case side2 => exact (Kd.S_reads' HO_9.out).2.1); rintro e w97 ⟨v531, rfl, ho0, hb⟩; refine ⟨_, rfl, ?_⟩; have n0_ := Aside0.mk (Kd.S_below (by (with_reducible repeat (first | apply Kd.S_alloc | apply Kd.S_drewN | apply Kd.S_drew)); exact HO_9.out) hb); have n1_ := Aside0.mk (Kd.S_lower ho0 (below_size qB)); have n2_ := bst hb; clear HO_9; clear HB; have HO_9 := n0_; have HO532 := n1_; have HB := n2_; clear n0_ n1_ n2_; (try clear hb); (try clear ho0); obtain ⟨Ao98, co98, eo98⟩ := Kd.S_slice HO532.out; subst eo98) | (refine gl (some 58) #[.slice Ao98 t530.length co98] Tryd.func36 ?_; (with_reducible refine (whirligigref22_Right.calls k1 _ _ t530 false _ ?side1 ?side2 A31.out).mono ?_); (case side1 => repeat (first | exact (Kd.S_reads' HO532.out).2.2 | (with_reducible refine Kd.C_alloc ?_ _) | (with_reducible refine Kd.C_drewN ?_ _) | (with_reducible refine Kd.C_drew ?_))); (case side2 => exact (Kd.S_reads' HO532.out).2.1); rintro e w99 ⟨rfl, hb⟩; refine ⟨_, rfl, ?_⟩; have n0_ := Aside0.mk (Kd.S_below (by (with_reducible repeat (first | apply Kd.S_alloc | apply Kd.S_drewN | apply Kd.S_drew)); exact HO_9.out) hb); have n1_ := Aside0.mk (Kd.S_below (by (with_reducible repeat (first | apply Kd.S_alloc | apply Kd.S_drewN | apply Kd.S_drew)); exact HO532.out) hb); have n2_ := bst hb; clear HO_9; clear HO532; clear HB; have HO_9 := n0_; have HO532 := n1_; have HB := n2_; clear n0_ n1_ n2_; (try clear hb)))
       go_ret
       exact ⟨qR, qB⟩
  ·replace c8 := Bool.eq_false_iff.mpr c8
   subst c8
   rw [if_neg (show ¬ (false = true) by decide)] at H
   obtain rfl := Option.some.inj H
   go_enter Tryd.func9, Tryd.ntmps9
   go_wp2_with (first | (refine gl (some 17) #[] Tryd.func32 ?_; (with_reducible refine (whirligiglaw22_anchor.calls k  true _ ?side1 A5.out).mono ?_); (case side1 => exact Laid.below HLD.out qB); rintro e w100 ⟨rfl, hb⟩; refine ⟨_, rfl, ?_⟩; replace HB := bst hb; (try clear hb)) | (refine gl (some 20) #[.slice A0 l0.length c0] Tryd.func38 ?_; (with_reducible refine (whirligiglaw22_small.calls k _ _ l0 false _ ?side1 ?side2 A7.out).mono ?_); (case side1 => exact qC); (case side2 => exact HC0.out); rintro e w101 ⟨rfl, hb⟩; refine ⟨_, rfl, ?_⟩; replace HB := bst hb; (try clear hb)))
   go_ret
   exact ⟨qR, qB⟩
 ·replace c6 := Bool.eq_false_iff.mpr c6
  subst c6
  rw [if_neg (show ¬ (false = true) by decide)] at H
  obtain rfl := Option.some.inj H
  go_enter Tryd.func9, Tryd.ntmps9
  go_wp2_with (first | (refine gl (some 17) #[] Tryd.func32 ?_; (with_reducible refine (whirligiglaw22_anchor.calls k  false _ ?side1 A5.out).mono ?_); (case side1 => exact Laid.below HLD.out qB); rintro e w102 ⟨rfl, hb⟩; refine ⟨_, rfl, ?_⟩; replace HB := bst hb; (try clear hb)))
  go_ret
  exact ⟨qR, qB⟩
end Go.Proofs.YtbngfhlciebeeaaDoor.L
