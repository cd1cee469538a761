/- Printed and hand-written steps towards the row (TreeEnds), those that it reaches. -/
import Derived.Test.YtbngfhlciebeeaaDoorTreeEndsG5
import Derived.Test.YtbngfhlciebeeaaDoorTreeEndsG6
import Derived.Test.YtbngfhlciebeeaaDoorTreeEndsLxf35
import Derived.Test.YtbngfhlciebeeaaDoorTreeEndsG23
import Derived.Test.YtbngfhlciebeeaaDoorTreeEndsLxf40
import Derived.Test.YtbngfhlciebeeaaDoorTreeEndsLxf41
import Derived.Test.YtbngfhlciebeeaaDoorTreeEndsLxf32
import Derived.Test.YtbngfhlciebeeaaDoorTreeEndsG30
import Derived.Test.YtbngfhlciebeeaaDoorTreeEndsLxf44
import Derived.Test.YtbngfhlciebeeaaDoorTreeEndsG31
import Derived.Test.YtbngfhlciebeeaaDoorTreeEndsG20
namespace Go.Proofs.YtbngfhlciebeeaaDoor.L
open Go.RowKit Go.Proofs.YtbngfhlciebeeaaDoorW.PrintWords Go.Proofs.YtbngfhlciebeeaaDoorW.PrintLast Go.Proofs.YtbngfhlciebeeaaDoorW.PrintMore
attribute [local go_sem] max2_int min2_int max_two min_two max_three min_three max_four min_four   -- for this text's walks alone
set_option linter.unusedVariables false
set_option linter.unusedSimpArgs false
attribute [local go_sem high] eqA45
mutual
def whirligiglaw22_TreeEnds.j0 : Nat → List (S56) → Int → Int → Bool → Int → Int → ByteArray → Int → Option (Bool)
 | 0, _, _, _, _, _, _, _, _ => none
 | k + 1, x0, x1, x2, x27, x648000, x648001, x648002, x648003 => if x27 = true then (some true) else ((tree_New.f).bind fun t650 => (whirligiglaw22_TreeEnds.l0 k x1 x2 t650 x0 (x0.length : Int) 0 x648000 x648001 x648002 x648003))
def whirligiglaw22_TreeEnds.l0 : Nat → Int → Int → List (S43) → List (S56) → Int → Int → Int → Int → ByteArray → Int → Option (Bool)
 | 0, _, _, _, _, _, _, _, _, _, _ => none
 | k + 1, x1, x2, x9, x29, x30, x31, x648000, x648001, x648002, x648003 => if x31 < x30 then (if 0 ≤ x31 then (if x31 < (x29.length : Int) then (if ((rd_T56 x29 x31).f0) = 1 then ((tree_Tree_Grow.f x9 ((rd_T56 x29 x31).f1)).bind fun bt655 => (whirligiglaw22_TreeEnds.l0 k x1 x2 bt655.1 x29 x30 (wrap64 (x31 + 1)) x648000 x648001 x648002 x648003)) else (if ((rd_T56 x29 x31).f0) = 2 then ((tree_Tree_Put.f k x9 ((rd_T56 x29 x31).f1) ((rd_T56 x29 x31).f2) ((rd_T56 x29 x31).f3.f0) ((rd_T56 x29 x31).f3.f1) ((rd_T56 x29 x31).f3.f2) ((rd_T56 x29 x31).f3.f3)).bind fun bt659 => (whirligiglaw22_TreeEnds.l0 k x1 x2 bt659.1 x29 x30 (wrap64 (x31 + 1)) x648000 x648001 x648002 x648003)) else (whirligiglaw22_TreeEnds.l0 k x1 x2 x9 x29 x30 (wrap64 (x31 + 1)) x648000 x648001 x648002 x648003))) else (none)) else (none)) else ((tree_Tree_Put.f k x9 x1 x2 x648000 x648001 x648002 x648003).bind fun bt664 => (if bt664.2.2 = 0 then ((tree_Tree_Input.f bt664.1 bt664.2.1 x2).bind fun bt670 => (if bt670.2.2.2.2 = true then (if (!(bt670.1 == x2) || (!(bt670.2.1 == x648001) || (!(bt670.2.2.1.toList == x648002.toList) || (!(bt670.2.2.2.1 == x648003))))) = true then (whirligiglaw22_TreeEnds.j2 k x1 x9 bt664.1 bt664.2.1 true) else (if 0 ≤ bt664.2.1 then (if bt664.2.1 < (bt664.1.length : Int) then (if ((rd_T43 bt664.1 bt664.2.1).f2) = (wrap64 (x2 + 1)) then ((tree_Tree_Right.f k bt664.1).bind fun t677 => (if t677 = true then ((tree_Tree_Common.f k bt664.1 x1 bt664.2.1).bind fun t678 => (whirligiglaw22_TreeEnds.j2 k x1 x9 bt664.1 bt664.2.1 (decide (t678 < x2)))) else (whirligiglaw22_TreeEnds.j2 k x1 x9 bt664.1 bt664.2.1 true))) else (whirligiglaw22_TreeEnds.j2 k x1 x9 bt664.1 bt664.2.1 true)) else (none)) else (none))) else (whirligiglaw22_TreeEnds.j2 k x1 x9 bt664.1 bt664.2.1 true))) else ((tree_Tree_Same.f k bt664.1 x9).bind fun t669 => (if t669 = true then (some (bt664.2.1 == 0)) else (some false)))))
def whirligiglaw22_TreeEnds.j2 : Nat → Int → List (S43) → List (S43) → Int → Bool → Option (Bool)
 | 0, _, _, _, _, _ => none
 | k + 1, x1, x9, x12, x13, x117 => if x117 = true then (some false) else (if x13 = x1 then (if (x12.length : Int) = (x9.length : Int) then (if 0 ≤ x1 then (if x1 ≤ (x12.length : Int) then (if x1 ≤ (x9.length : Int) then ((tree_Tree_Same.f k (x12.take (x1 : Int).toNat) (x9.take (x1 : Int).toNat)).bind fun t687 => (if t687 = true then (if 0 ≤ (wrap64 (x1 + 1)) then (if (wrap64 (x1 + 1)) ≤ (x12.length : Int) then (if (wrap64 (x1 + 1)) ≤ (x9.length : Int) then ((tree_Tree_Same.f k (x12.drop ((wrap64 (x1 + 1)) : Int).toNat) (x9.drop ((wrap64 (x1 + 1)) : Int).toNat)).bind fun t696 => (some t696)) else (none)) else (none)) else (none)) else (some false))) else (none)) else (none)) else (none)) else (some false)) else (if (x12.length : Int) = (wrap64 ((x9.length : Int) + 1)) then (if 0 ≤ (x9.length : Int) then (if (x9.length : Int) ≤ (x12.length : Int) then ((tree_Tree_Same.f k (x12.take ((x9.length : Int) : Int).toNat) x9).bind fun t701 => (if t701 = true then (if x13 = (x9.length : Int) then (if 0 ≤ x13 then (if x13 < (x12.length : Int) then (some (((rd_T43 x12 x13).f0) == x1)) else (none)) else (none)) else (some false)) else (some false))) else (none)) else (none)) else (some false)))
end
def whirligiglaw22_TreeEnds.f (k : Nat) (l0 : List (S56)) (a1 : Int) (a2 : Int) (a3_0 : Int) (a3_1 : Int) (a3_2 : ByteArray) (a3_3 : Int) : Option (Bool) := (whirligiglaw22_anchor.f k).bind fun t648 => (if t648 = true then ((whirligiglaw22_small.f k l0).bind fun t649 => (if t649 = true then (whirligiglaw22_TreeEnds.j0 k l0 a1 a2 (decide ((a3_2.size : Int) > 200)) a3_0 a3_1 a3_2 a3_3) else (whirligiglaw22_TreeEnds.j0 k l0 a1 a2 true a3_0 a3_1 a3_2 a3_3))) else (some false))
def whirligiglaw22_TreeEnds.T23 : Bool × List (List Nat × List Nat) := (true, [([], []), ([0], [0]), ([], []), ([2], [2]), ([1, 3], [1, 3]), ([4], [4]), ([5], [5]), ([5], [5]), ([6, 7, 5], [5, 6, 7]), ([5], [5]), ([5], [5]), ([9, 10, 5], [5, 9, 10]), ([8, 11, 5, 5], [5, 8, 11]), ([5, 12], [5, 12]), ([13, 12], [13]), ([14], [14]), ([14], [14]), ([16, 14], [14, 16]), ([15, 17, 14], [14, 15, 17]), ([14], [14]), ([14], [14]), ([20, 14], [14, 20]), ([19, 21, 14], [14, 19, 21]), ([18, 22, 14, 14], [14, 18, 22]), ([14, 23], [14, 23]), ([24, 23, 0, 1, 2, 3, 4, 5, 6, 7, 8, 9, 10, 11, 12, 13, 14, 15, 16, 17, 18, 19, 20, 21, 22, 23, 24], [24])])
def whirligiglaw22_TreeEnds.B23 : List Nat := [0, 1, 0, 4, 15, 31, 63, 63, 255, 63, 63, 1599, 4095, 8191, 16383, 32767, 32767, 98303, 262143, 32767, 32767, 1081343, 3702783, 8388607, 16777215, 33554431]
theorem whirligiglaw22_TreeEnds.tab23 : rtab .any (opsOf Tryd.f11 23) = whirligiglaw22_TreeEnds.T23 := by kernel_rfl
theorem whirligiglaw22_TreeEnds.bits23 : waitsOk whirligiglaw22_TreeEnds.T23.2 whirligiglaw22_TreeEnds.B23 = true := by kernel_rfl
set_option maxHeartbeats 8000000 in
set_option maxRecDepth 100000 in
theorem whirligiglaw22_TreeEnds.calls (k : Nat) (A0 : Option Addr) (c0 : Nat) (l0 : List (S56)) (a1 : Int) (a2 : Int) (a3_0 : Int) (a3_1 : Int) (a3_2 : ByteArray) (a3_3 : Int) (r : Bool) (w : World) (hr0 : Kd.C k56 w A0 l0.length l0) (hc0 : l0.length ≤ c0) (hL : Laid w) (h : whirligiglaw22_TreeEnds.f k l0 a1 a2 a3_0 a3_1 a3_2 a3_3 = some r) :
  Calls Tryd.prog 11 #[.slice A0 l0.length c0, .int .i64 a1, .int .i64 a2, .agg #[.int .i64 a3_0, .int .i64 a3_1, .string a3_2, .int .i64 a3_3]] w fun e w' => e = .returned (.bool r) ∧ Below w.heap.size w w' := by
 have hu45 := Tryd.underlying45
 have hu56 := Tryd.underlying56
 have HR0 := Aside0.mk hr0
 have HC0 := Aside0.mk hc0
 clear hr0 hc0
 have HB := Aside0.mk (Below.refl w.heap.size w)
 have HLD := Aside0.mk hL
 clear hL
 have H : ((whirligiglaw22_anchor.f k).bind fun t648 => (if t648 = true then ((whirligiglaw22_small.f k l0).bind fun t649 => (if t649 = true then (whirligiglaw22_TreeEnds.j0 k l0 a1 a2 (decide ((a3_2.size : Int) > 200)) a3_0 a3_1 a3_2 a3_3) else (whirligiglaw22_TreeEnds.j0 k l0 a1 a2 true a3_0 a3_1 a3_2 a3_3))) else (some false))) = some r := h
 clear h
 replace H := Option.bind_eq_some_iff.mp H
 obtain ⟨t648, A50, H⟩ := H
 (try dsimp -simprocs only at H)
 have A5 := Aside0.mk A50
 clear A50
 by_cases c6 : t648 = true
 ·subst c6
  rw [if_pos rfl] at H
  have HC7 := Aside0.mk H
  clear H
  go_enter Tryd.func11, Tryd.ntmps11
  go_upto_region 3 with (first | ((with_reducible refine gate_dst (N := 7) rfl ?_); (try (refine gate_guard (by rfl) ?_; dsimp only)); refine box_event ?hg (N := 7) ?hd (cs := #[.int .i64 a3_0, .int .i64 a3_1, .string a3_2, .int .i64 a3_3]) (t := 45) ?hr ?_; (case hd => rfl); (case hg => rfl); (case hr => first | (go_simp; done) | (go_simp; rfl)); intro gb647 hg w8 hbox hb; have BK647 := Aside0.mk (hbox); have GW647 := geS hg; have GE647 := geS hg; replace HB := bst hb; clear hb hbox hg) | ((with_reducible refine gc 32 rfl ?_); refine gl (some 17) #[] Tryd.func32 ?_; (with_reducible refine (whirligiglaw22_anchor.calls k  true _ ?side1 A5.out).mono ?_); (case side1 => exact Laid.below HLD.out qB); rintro e w9 ⟨rfl, hb⟩; refine ⟨_, rfl, ?_⟩; replace BK647 := kb gb647 hb; replace HB := bst hb; (try clear hb)))
  (try simp only [Act.put, List.setIfInBounds_toArray, List.set_cons_zero, List.set_cons_succ])
  go_cut [27] (fun v27 wc => ∃ (kq : Nat) (x27_6 : Bool), v27 = .bool x27_6 ∧ Aside0 (whirligiglaw22_TreeEnds.j0 kq l0 a1 a2 x27_6 a3_0 a3_1 a3_2 a3_3 = some r) ∧ Aside0 (kq ≤ k) ∧ Aside0 (wc.heap[gb647]? = some (.cells #[.int .i64 a3_0, .int .i64 a3_1, .string a3_2, .int .i64 a3_3] 45 (0, 0))) ∧ Aside0 (Below w.heap.size w wc))
  case first =>
   have H := HC7.out
   clear HC7
   replace H := Option.bind_eq_some_iff.mp H
   obtain ⟨t649, A100, H⟩ := H
   (try dsimp -simprocs only at H)
   have A10 := Aside0.mk A100
   clear A100
   by_cases c11 : t649 = true
   ·subst c11
    rw [if_pos rfl] at H
    have H' := Aside0.mk H
    clear H
    go_wp2_with (first | ((with_reducible refine gc 38 rfl ?_); refine gl (some 20) #[.slice A0 l0.length c0] Tryd.func38 ?_; (with_reducible refine (whirligiglaw22_small.calls k _ _ l0 true _ ?side1 ?side2 A10.out).mono ?_); (case side1 => exact qC); (case side2 => exact HC0.out); rintro e w12 ⟨rfl, hb⟩; refine ⟨_, rfl, ?_⟩; replace BK647 := kb gb647 hb; replace HB := bst hb; (try clear hb); obtain ⟨hcz13_0, hcz13_1, hcz13_2, hcz13_3, hfz13_0, hfz13_1, hfz13_2, hfz13_3⟩ := cells4 BK647.out))
    go_meet
    case rel => exact ⟨_, (decide ((a3_2.size : Int) > 200)), (by first | rfl | (simp; done) | (simp [*]; done)), H', ⟨by first | omega | exact Nat.le_refl _⟩, ⟨qK⟩, ⟨qB⟩⟩
   ·replace c11 := Bool.eq_false_iff.mpr c11
    subst c11
    rw [if_neg (show ¬ (false = true) by decide)] at H
    have H' := Aside0.mk H
    clear H
    go_wp2_with (first | ((with_reducible refine gc 38 rfl ?_); refine gl (some 20) #[.slice A0 l0.length c0] Tryd.func38 ?_; (with_reducible refine (whirligiglaw22_small.calls k _ _ l0 false _ ?side1 ?side2 A10.out).mono ?_); (case side1 => exact qC); (case side2 => exact HC0.out); rintro e w14 ⟨rfl, hb⟩; refine ⟨_, rfl, ?_⟩; replace BK647 := kb gb647 hb; replace HB := bst hb; (try clear hb)))
    go_meet
    case rel => exact ⟨_, (true), (by first | rfl | (simp; done) | (simp [*]; done)), H', ⟨by first | omega | exact Nat.le_refl _⟩, ⟨qK⟩, ⟨qB⟩⟩
  case rest =>
   clear HC7
   try clear c1
   try clear p2
   try clear c3
   try clear c6
   try clear c11
   try clear hcz13_0 hcz13_1 hcz13_2 hcz13_3 hfz13_0 hfz13_1 hfz13_2 hfz13_3
   obtain ⟨kq, x27_6, rfl, HA, HJ6, BK647, HB⟩ := hcut
   cases kq with
   | zero => exact absurd HA.out (by simp [whirligiglaw22_TreeEnds.j0])
   | succ kj6 =>
    have H := HA.out
    clear HA
    simp only [whirligiglaw22_TreeEnds.j0] at H
    by_cases c15 : x27_6 = true
    ·subst c15
     rw [if_pos rfl] at H
     obtain rfl := Option.some.inj H
     go_wp2
     go_ret
     exact ⟨qR, qB⟩
    ·replace c15 := Bool.eq_false_iff.mpr c15
     subst c15
     rw [if_neg (show ¬ (false = true) by decide)] at H
     replace H := Option.bind_eq_some_iff.mp H
     obtain ⟨t650, A160, H⟩ := H
     (try dsimp -simprocs only at H)
     have A16 := Aside0.mk A160
     clear A160
     have H' := Aside0.mk H
     clear H
     go_wp2_with (first | ((with_reducible refine gc 39 rfl ?_); refine gl (some 28) #[] Tryd.func39 ?_; (with_reducible refine (tree_New.calls  t650 _ A16.out).mono ?_); rintro e w17 ⟨v651, rfl, ho0, hb⟩; refine ⟨_, rfl, ?_⟩; have HO652 := Aside0.mk (Kd.S_lower (Kd.S_newB ho0 (g := gb647) (o := .cells #[.int .i64 a3_0, .int .i64 a3_1, .string a3_2, .int .i64 a3_3] 45 (0, 0)) qK) (below_size qB)); replace BK647 := kb gb647 hb; replace HB := bst hb; (try clear hb); (try clear ho0)))
     go_loopg [9, 31] kj6 (fun kq v9 v31 w' => ∃ (x9_2 : List (S43)) (x31_2 : Int), v31 = .int .i64 x31_2 ∧ Aside0 (whirligiglaw22_TreeEnds.l0 kq a1 a2 x9_2 l0 (l0.length : Int) x31_2 a3_0 a3_1 a3_2 a3_3 = some r) ∧ Aside0 (kq ≤ kj6) ∧ Aside0 (Kd.S k43 43 w' w.heap.size (fun k_ => k_ ≠ gb647) v9 x9_2) ∧ Aside0 (w'.heap[gb647]? = some (.cells #[.int .i64 a3_0, .int .i64 a3_1, .string a3_2, .int .i64 a3_3] 45 (0, 0))) ∧ Aside0 (Below w.heap.size w w'))
     case atStart => exact ⟨(t650), (0), (by first | rfl | (simp; done) | (simp [*]; done)), H', ⟨Nat.le_refl _⟩, ⟨by (with_reducible repeat (first | apply Kd.S_alloc | apply Kd.S_drewN | apply Kd.S_drew)); exact Kd.S_mono HO652.out (fun _ hk => hk.2)⟩, ⟨qK⟩, ⟨qB⟩⟩
     case round =>
      clear H'
      try clear c1
      try clear p2 p2
      try clear c3
      try clear c6
      try clear c11
      try clear c15
      try clear hcz13_0 hcz13_1 hcz13_2 hcz13_3 hfz13_0 hfz13_1 hfz13_2 hfz13_3
      obtain ⟨x9_2, x31_2, rfl, HA, HK2, HO_9, BK647, HB⟩ := hrel
      cases gk with
      | zero => exact absurd HA.out (by simp [whirligiglaw22_TreeEnds.l0])
      | succ k2 =>
       have H := HA.out
       clear HA
       simp only [whirligiglaw22_TreeEnds.l0] at H
       by_cases c18 : x31_2 < (l0.length : Int)
       ·rw [if_pos c18] at H
        have c18b0 := decide_eq_true c18
        clear c18
        replace H := iD H
        rcases H with ⟨c19b0, H⟩ | ⟨c19b0, H⟩
        ·by_cases c20 : x31_2 < (l0.length : Int)
         ·rw [if_pos c20] at H
          have c20b0 := decide_eq_true c20
          clear c20
          by_cases c21 : ((rd_T56 l0 x31_2).f0) = 1
          ·rw [if_pos c21] at H
           have c21b0 := beq_iff_eq.mpr c21
           have c21b1 := bne_eq_false_iff_eq.mpr c21
           clear c21
           replace H := Option.bind_eq_some_iff.mp H
           obtain ⟨⟨t655, t656⟩, A220, H⟩ := H
           (try dsimp -simprocs only at H)
           have A22 := Aside0.mk A220
           clear A220
           have H' := Aside0.mk H
           clear H
           have p653 : 0 ≤ (x31_2 : Int) := qD
           have q653 : x31_2 < (l0.length : Int) := qD
           obtain ⟨ad653, e653, hx653_0, hx653_1, hx653_2, hx653_3, hx653_4, hx653_5, hx653_6⟩ := at_T56 (Kd.C_below HR0.out HB.out) x31_2 p653 q653
           cases e653
           replace p653 := eq_true p653
           replace q653 := eq_true q653
           go_wp2_with (first | ((with_reducible refine gate_dst (N := 11) rfl ?_); (try (refine gate_guard (by rfl) ?_; dsimp only)); refine box_event ?hg (N := 11) ?hd (cs := #[.int .i64 0, .int .i64 0, .int .i64 0, .int .i64 0, .int .i64 0, .string (⟨#[]⟩ : ByteArray), .int .i64 0]) (t := 56) ?hr ?_; (case hd => rfl); (case hg => rfl); (case hr => first | (go_simp; done) | (go_simp; rfl)); intro gb654 hg w23 hbox hb; have n0_ := Aside0.mk (Kd.S_below (by (with_reducible repeat (first | apply Kd.S_alloc | apply Kd.S_drewN | apply Kd.S_drew)); exact HO_9.out) hb); have n1_ := kb gb647 hb; have n2_ := bst hb; have n3_ := Aside0.mk (hbox); have n4_ := geS hg; have n5_ := geS hg; have n6_ := neS gb647 hg; have n7_ := neT gb647 hg; clear HO_9; clear BK647; clear HB; have HO_9 := n0_; have BK647 := n1_; have HB := n2_; have BK654 := n3_; have GW654 := n4_; have GE654 := n5_; have NB647_654 := n6_; have NB654_647 := n7_; clear n0_ n1_ n2_ n3_ n4_ n5_ n6_ n7_; clear hb hbox hg; have hnb24 := NB654_647.out; have hnc24 := NB647_654.out; obtain ⟨hcz25_0, hcz25_1, hcz25_2, hcz25_3, hcz25_4, hcz25_5, hcz25_6, hfz25_0, hfz25_1, hfz25_2, hfz25_3, hfz25_4, hfz25_5, hfz25_6⟩ := cells7 BK654.out; obtain ⟨Ao26, co26, eo26⟩ := Kd.S_slice HO_9.out; subst eo26) | ((with_reducible refine gc 40 rfl ?_); refine gl (some 43) #[.slice Ao26 x9_2.length co26, .int .i64 ((rd_T56 l0 x31_2).f1)] Tryd.func40 ?_; (with_reducible refine (tree_Tree_Grow.calls _ _ x9_2 ((rd_T56 l0 x31_2).f1) t655 t656 _ ?side1 ?side2 A22.out).mono ?_); (case side1 => refine (Kd.S_reads' (e := 43) (base := w.heap.size) (ok := fun k_ => k_ ≠ gb647) (n := x9_2.length) (c := co26) ?_).2.2; exact (by (with_reducible repeat (first | apply Kd.S_alloc | apply Kd.S_drewN | apply Kd.S_drew)); exact (Kd.S_mono (Kd.S_far (p := ⟨gb654, 6, none⟩) (Kd.S_far (p := ⟨gb654, 5, none⟩) (Kd.S_far (p := ⟨gb654, 4, none⟩) (Kd.S_far (p := ⟨gb654, 3, none⟩) (Kd.S_far (p := ⟨gb654, 2, none⟩) (Kd.S_far (p := ⟨gb654, 1, none⟩) (Kd.S_far (p := ⟨gb654, 0, none⟩) (Kd.S_types HO_9.out BK654.out (by decide)) (fun _ hk => hk.2) (.int .i64 ((rd_T56 l0 x31_2).f0))) (fun _ hk => hk.2) (.int .i64 ((rd_T56 l0 x31_2).f1))) (fun _ hk => hk.2) (.int .i64 ((rd_T56 l0 x31_2).f2))) (fun _ hk => hk.2) (.int .i64 ((rd_T56 l0 x31_2).f3.f0))) (fun _ hk => hk.2) (.int .i64 ((rd_T56 l0 x31_2).f3.f1))) (fun _ hk => hk.2) (.string ((rd_T56 l0 x31_2).f3.f2))) (fun _ hk => hk.2) (.int .i64 ((rd_T56 l0 x31_2).f3.f3))) (fun _ h_ => h_.1)))); (case side2 => exact (Kd.S_reads' HO_9.out).2.1); rintro e w27 ⟨v657, rfl, ho0, hb⟩; refine ⟨_, rfl, ?_⟩; have n0_ := Aside0.mk (Kd.S_elder' (by (with_reducible repeat (first | apply Kd.S_alloc | apply Kd.S_drewN | apply Kd.S_drew)); exact (Kd.S_mono (Kd.S_far (p := ⟨gb654, 6, none⟩) (Kd.S_far (p := ⟨gb654, 5, none⟩) (Kd.S_far (p := ⟨gb654, 4, none⟩) (Kd.S_far (p := ⟨gb654, 3, none⟩) (Kd.S_far (p := ⟨gb654, 2, none⟩) (Kd.S_far (p := ⟨gb654, 1, none⟩) (Kd.S_far (p := ⟨gb654, 0, none⟩) (Kd.S_types HO_9.out BK654.out (by decide)) (fun _ hk => hk.2) (.int .i64 ((rd_T56 l0 x31_2).f0))) (fun _ hk => hk.2) (.int .i64 ((rd_T56 l0 x31_2).f1))) (fun _ hk => hk.2) (.int .i64 ((rd_T56 l0 x31_2).f2))) (fun _ hk => hk.2) (.int .i64 ((rd_T56 l0 x31_2).f3.f0))) (fun _ hk => hk.2) (.int .i64 ((rd_T56 l0 x31_2).f3.f1))) (fun _ hk => hk.2) (.string ((rd_T56 l0 x31_2).f3.f2))) (fun _ hk => hk.2) (.int .i64 ((rd_T56 l0 x31_2).f3.f3))) (fun _ h_ => h_.1))) (Kd.S_base ho0) hb); have n1_ := Aside0.mk (Kd.S_lower (Kd.S_newB (Kd.S_new' ho0 (Kd.S_lt (by (with_reducible repeat (first | apply Kd.S_alloc | apply Kd.S_drewN | apply Kd.S_drew)); exact (Kd.S_mono (Kd.S_far (p := ⟨gb654, 6, none⟩) (Kd.S_far (p := ⟨gb654, 5, none⟩) (Kd.S_far (p := ⟨gb654, 4, none⟩) (Kd.S_far (p := ⟨gb654, 3, none⟩) (Kd.S_far (p := ⟨gb654, 2, none⟩) (Kd.S_far (p := ⟨gb654, 1, none⟩) (Kd.S_far (p := ⟨gb654, 0, none⟩) (Kd.S_types HO_9.out BK654.out (by decide)) (fun _ hk => hk.2) (.int .i64 ((rd_T56 l0 x31_2).f0))) (fun _ hk => hk.2) (.int .i64 ((rd_T56 l0 x31_2).f1))) (fun _ hk => hk.2) (.int .i64 ((rd_T56 l0 x31_2).f2))) (fun _ hk => hk.2) (.int .i64 ((rd_T56 l0 x31_2).f3.f0))) (fun _ hk => hk.2) (.int .i64 ((rd_T56 l0 x31_2).f3.f1))) (fun _ hk => hk.2) (.string ((rd_T56 l0 x31_2).f3.f2))) (fun _ hk => hk.2) (.int .i64 ((rd_T56 l0 x31_2).f3.f3))) (fun _ h_ => h_.1))))) (g := gb647) (o := .cells #[.int .i64 a3_0, .int .i64 a3_1, .string a3_2, .int .i64 a3_3] 45 (0, 0)) qK) (below_size qB)); have n2_ := kb gb647 hb; have n3_ := kp gb654 (.cells #[.int .i64 ((rd_T56 l0 x31_2).f0), .int .i64 ((rd_T56 l0 x31_2).f1), .int .i64 ((rd_T56 l0 x31_2).f2), .int .i64 ((rd_T56 l0 x31_2).f3.f0), .int .i64 ((rd_T56 l0 x31_2).f3.f1), .string ((rd_T56 l0 x31_2).f3.f2), .int .i64 ((rd_T56 l0 x31_2).f3.f3)] 56 (0, 0)) hb; have n4_ := bst hb; clear HO_9; clear BK647; clear BK654; clear HB; have HO_9 := n0_; have HO658 := n1_; have BK647 := n2_; have BK654 := n3_; have HB := n4_; clear n0_ n1_ n2_ n3_ n4_; (try clear hb); (try clear ho0)))
           go_roundg k2
           case measure => have := HJ6.out; have := HK2.out; omega
           case rel => exact ⟨(t655), (wrap64 (x31_2 + 1)), (by first | rfl | (simp; done) | (simp [*]; done)), H', ⟨by have := HJ6.out; have := HK2.out; omega⟩, ⟨by (with_reducible repeat (first | apply Kd.S_alloc | apply Kd.S_drewN | apply Kd.S_drew)); exact Kd.S_mono HO658.out (fun _ hk => hk.2)⟩, ⟨qK⟩, ⟨qB⟩⟩
          ·rw [if_neg c21] at H
           have c21b0 := beq_eq_false_iff_ne.mpr c21
           have c21b1 := bne_iff_ne.mpr c21
           by_cases c28 : ((rd_T56 l0 x31_2).f0) = 2
           ·rw [if_pos c28] at H
            have c28b0 := beq_iff_eq.mpr c28
            have c28b1 := bne_eq_false_iff_eq.mpr c28
            clear c28
            replace H := Option.bind_eq_some_iff.mp H
            obtain ⟨⟨t659, t662, t663⟩, A290, H⟩ := H
            (try dsimp -simprocs only at H)
            have A29 := Aside0.mk A290
            clear A290
            have H' := Aside0.mk H
            clear H
            have p653 : 0 ≤ (x31_2 : Int) := qD
            have q653 : x31_2 < (l0.length : Int) := qD
            obtain ⟨ad653, e653, hx653_0, hx653_1, hx653_2, hx653_3, hx653_4, hx653_5, hx653_6⟩ := at_T56 (Kd.C_below HR0.out HB.out) x31_2 p653 q653
            cases e653
            replace p653 := eq_true p653
            replace q653 := eq_true q653
            go_wp2_with (first | ((with_reducible refine gate_dst (N := 11) rfl ?_); (try (refine gate_guard (by rfl) ?_; dsimp only)); refine box_event ?hg (N := 11) ?hd (cs := #[.int .i64 0, .int .i64 0, .int .i64 0, .int .i64 0, .int .i64 0, .string (⟨#[]⟩ : ByteArray), .int .i64 0]) (t := 56) ?hr ?_; (case hd => rfl); (case hg => rfl); (case hr => first | (go_simp; done) | (go_simp; rfl)); intro gb654 hg w30 hbox hb; have n0_ := Aside0.mk (Kd.S_below (by (with_reducible repeat (first | apply Kd.S_alloc | apply Kd.S_drewN | apply Kd.S_drew)); exact HO_9.out) hb); have n1_ := kb gb647 hb; have n2_ := bst hb; have n3_ := Aside0.mk (hbox); have n4_ := geS hg; have n5_ := geS hg; have n6_ := neS gb647 hg; have n7_ := neT gb647 hg; clear HO_9; clear BK647; clear HB; have HO_9 := n0_; have BK647 := n1_; have HB := n2_; have BK654 := n3_; have GW654 := n4_; have GE654 := n5_; have NB647_654 := n6_; have NB654_647 := n7_; clear n0_ n1_ n2_ n3_ n4_ n5_ n6_ n7_; clear hb hbox hg; have hnb31 := NB654_647.out; have hnc31 := NB647_654.out; obtain ⟨hcz32_0, hcz32_1, hcz32_2, hcz32_3, hcz32_4, hcz32_5, hcz32_6, hfz32_0, hfz32_1, hfz32_2, hfz32_3, hfz32_4, hfz32_5, hfz32_6⟩ := cells7 BK654.out; obtain ⟨Ao33, co33, eo33⟩ := Kd.S_slice HO_9.out; subst eo33) | ((with_reducible refine gc 41 rfl ?_); refine gl (some 56) #[.slice Ao33 x9_2.length co33, .int .i64 ((rd_T56 l0 x31_2).f1), .int .i64 ((rd_T56 l0 x31_2).f2), .agg #[.int .i64 ((rd_T56 l0 x31_2).f3.f0), .int .i64 ((rd_T56 l0 x31_2).f3.f1), .string ((rd_T56 l0 x31_2).f3.f2), .int .i64 ((rd_T56 l0 x31_2).f3.f3)]] Tryd.func41 ?_; (with_reducible refine (tree_Tree_Put.calls k2 _ _ x9_2 ((rd_T56 l0 x31_2).f1) ((rd_T56 l0 x31_2).f2) ((rd_T56 l0 x31_2).f3.f0) ((rd_T56 l0 x31_2).f3.f1) ((rd_T56 l0 x31_2).f3.f2) ((rd_T56 l0 x31_2).f3.f3) t659 t662 t663 _ ?side1 ?side2 ?side3 A29.out).mono ?_); (case side1 => refine (Kd.S_reads' (e := 43) (base := w.heap.size) (ok := fun k_ => k_ ≠ gb647) (n := x9_2.length) (c := co33) ?_).2.2; exact (by (with_reducible repeat (first | apply Kd.S_alloc | apply Kd.S_drewN | apply Kd.S_drew)); exact (Kd.S_mono (Kd.S_far (p := ⟨gb654, 6, none⟩) (Kd.S_far (p := ⟨gb654, 5, none⟩) (Kd.S_far (p := ⟨gb654, 4, none⟩) (Kd.S_far (p := ⟨gb654, 3, none⟩) (Kd.S_far (p := ⟨gb654, 2, none⟩) (Kd.S_far (p := ⟨gb654, 1, none⟩) (Kd.S_far (p := ⟨gb654, 0, none⟩) (Kd.S_types HO_9.out BK654.out (by decide)) (fun _ hk => hk.2) (.int .i64 ((rd_T56 l0 x31_2).f0))) (fun _ hk => hk.2) (.int .i64 ((rd_T56 l0 x31_2).f1))) (fun _ hk => hk.2) (.int .i64 ((rd_T56 l0 x31_2).f2))) (fun _ hk => hk.2) (.int .i64 ((rd_T56 l0 x31_2).f3.f0))) (fun _ hk => hk.2) (.int .i64 ((rd_T56 l0 x31_2).f3.f1))) (fun _ hk => hk.2) (.string ((rd_T56 l0 x31_2).f3.f2))) (fun _ hk => hk.2) (.int .i64 ((rd_T56 l0 x31_2).f3.f3))) (fun _ h_ => h_.1)))); (case side2 => exact (Kd.S_reads' HO_9.out).2.1); (case side3 => exact Laid.below HLD.out qB); rintro e w34 ⟨v660, rfl, ho0, hb⟩; refine ⟨_, rfl, ?_⟩; have n0_ := Aside0.mk (Kd.S_elder' (by (with_reducible repeat (first | apply Kd.S_alloc | apply Kd.S_drewN | apply Kd.S_drew)); exact (Kd.S_mono (Kd.S_far (p := ⟨gb654, 6, none⟩) (Kd.S_far (p := ⟨gb654, 5, none⟩) (Kd.S_far (p := ⟨gb654, 4, none⟩) (Kd.S_far (p := ⟨gb654, 3, none⟩) (Kd.S_far (p := ⟨gb654, 2, none⟩) (Kd.S_far (p := ⟨gb654, 1, none⟩) (Kd.S_far (p := ⟨gb654, 0, none⟩) (Kd.S_types HO_9.out BK654.out (by decide)) (fun _ hk => hk.2) (.int .i64 ((rd_T56 l0 x31_2).f0))) (fun _ hk => hk.2) (.int .i64 ((rd_T56 l0 x31_2).f1))) (fun _ hk => hk.2) (.int .i64 ((rd_T56 l0 x31_2).f2))) (fun _ hk => hk.2) (.int .i64 ((rd_T56 l0 x31_2).f3.f0))) (fun _ hk => hk.2) (.int .i64 ((rd_T56 l0 x31_2).f3.f1))) (fun _ hk => hk.2) (.string ((rd_T56 l0 x31_2).f3.f2))) (fun _ hk => hk.2) (.int .i64 ((rd_T56 l0 x31_2).f3.f3))) (fun _ h_ => h_.1))) (Kd.S_base ho0) hb); have n1_ := Aside0.mk (Kd.S_lower (Kd.S_newB (Kd.S_new' ho0 (Kd.S_lt (by (with_reducible repeat (first | apply Kd.S_alloc | apply Kd.S_drewN | apply Kd.S_drew)); exact (Kd.S_mono (Kd.S_far (p := ⟨gb654, 6, none⟩) (Kd.S_far (p := ⟨gb654, 5, none⟩) (Kd.S_far (p := ⟨gb654, 4, none⟩) (Kd.S_far (p := ⟨gb654, 3, none⟩) (Kd.S_far (p := ⟨gb654, 2, none⟩) (Kd.S_far (p := ⟨gb654, 1, none⟩) (Kd.S_far (p := ⟨gb654, 0, none⟩) (Kd.S_types HO_9.out BK654.out (by decide)) (fun _ hk => hk.2) (.int .i64 ((rd_T56 l0 x31_2).f0))) (fun _ hk => hk.2) (.int .i64 ((rd_T56 l0 x31_2).f1))) (fun _ hk => hk.2) (.int .i64 ((rd_T56 l0 x31_2).f2))) (fun _ hk => hk.2) (.int .i64 ((rd_T56 l0 x31_2).f3.f0))) (fun _ hk => hk.2) (.int .i64 ((rd_T56 l0 x31_2).f3.f1))) (fun _ hk => hk.2) (.string ((rd_T56 l0 x31_2).f3.f2))) (fun _ hk => hk.2) (.int .i64 ((rd_T56 l0 x31_2).f3.f3))) (fun _ h_ => h_.1))))) (g := gb647) (o := .cells #[.int .i64 a3_0, .int .i64 a3_1, .string a3_2, .int .i64 a3_3] 45 (0, 0)) qK) (below_size qB)); have n2_ := kb gb647 hb; have n3_ := kp gb654 (.cells #[.int .i64 ((rd_T56 l0 x31_2).f0), .int .i64 ((rd_T56 l0 x31_2).f1), .int .i64 ((rd_T56 l0 x31_2).f2), .int .i64 ((rd_T56 l0 x31_2).f3.f0), .int .i64 ((rd_T56 l0 x31_2).f3.f1), .string ((rd_T56 l0 x31_2).f3.f2), .int .i64 ((rd_T56 l0 x31_2).f3.f3)] 56 (0, 0)) hb; have n4_ := bst hb; clear HO_9; clear BK647; clear BK654; clear HB; have HO_9 := n0_; have HO661 := n1_; have BK647 := n2_; have BK654 := n3_; have HB := n4_; clear n0_ n1_ n2_ n3_ n4_; (try clear hb); (try clear ho0)))
            go_roundg k2
            case measure => have := HJ6.out; have := HK2.out; omega
            case rel => exact ⟨(t659), (wrap64 (x31_2 + 1)), (by first | rfl | (simp; done) | (simp [*]; done)), H', ⟨by have := HJ6.out; have := HK2.out; omega⟩, ⟨by (with_reducible repeat (first | apply Kd.S_alloc | apply Kd.S_drewN | apply Kd.S_drew)); exact Kd.S_mono HO661.out (fun _ hk => hk.2)⟩, ⟨qK⟩, ⟨qB⟩⟩
           ·rw [if_neg c28] at H
            have c28b0 := beq_eq_false_iff_ne.mpr c28
            have c28b1 := bne_iff_ne.mpr c28
            have H' := Aside0.mk H
            clear H
            have p653 : 0 ≤ (x31_2 : Int) := qD
            have q653 : x31_2 < (l0.length : Int) := qD
            obtain ⟨ad653, e653, hx653_0, hx653_1, hx653_2, hx653_3, hx653_4, hx653_5, hx653_6⟩ := at_T56 (Kd.C_below HR0.out HB.out) x31_2 p653 q653
            cases e653
            replace p653 := eq_true p653
            replace q653 := eq_true q653
            go_wp2_with (first | ((with_reducible refine gate_dst (N := 11) rfl ?_); (try (refine gate_guard (by rfl) ?_; dsimp only)); refine box_event ?hg (N := 11) ?hd (cs := #[.int .i64 0, .int .i64 0, .int .i64 0, .int .i64 0, .int .i64 0, .string (⟨#[]⟩ : ByteArray), .int .i64 0]) (t := 56) ?hr ?_; (case hd => rfl); (case hg => rfl); (case hr => first | (go_simp; done) | (go_simp; rfl)); intro gb654 hg w35 hbox hb; have n0_ := Aside0.mk (Kd.S_below (by (with_reducible repeat (first | apply Kd.S_alloc | apply Kd.S_drewN | apply Kd.S_drew)); exact HO_9.out) hb); have n1_ := kb gb647 hb; have n2_ := bst hb; have n3_ := Aside0.mk (hbox); have n4_ := geS hg; have n5_ := geS hg; have n6_ := neS gb647 hg; have n7_ := neT gb647 hg; clear HO_9; clear BK647; clear HB; have HO_9 := n0_; have BK647 := n1_; have HB := n2_; have BK654 := n3_; have GW654 := n4_; have GE654 := n5_; have NB647_654 := n6_; have NB654_647 := n7_; clear n0_ n1_ n2_ n3_ n4_ n5_ n6_ n7_; clear hb hbox hg; have hnb36 := NB654_647.out; have hnc36 := NB647_654.out; obtain ⟨hcz37_0, hcz37_1, hcz37_2, hcz37_3, hcz37_4, hcz37_5, hcz37_6, hfz37_0, hfz37_1, hfz37_2, hfz37_3, hfz37_4, hfz37_5, hfz37_6⟩ := cells7 BK654.out))
            go_roundg k2
            case measure => have := HJ6.out; have := HK2.out; omega
            case rel => exact ⟨(x9_2), (wrap64 (x31_2 + 1)), (by first | rfl | (simp; done) | (simp [*]; done)), H', ⟨by have := HJ6.out; have := HK2.out; omega⟩, ⟨by (with_reducible repeat (first | apply Kd.S_alloc | apply Kd.S_drewN | apply Kd.S_drew)); exact Kd.S_mono (Kd.S_far (p := ⟨gb654, 6, none⟩) (Kd.S_far (p := ⟨gb654, 5, none⟩) (Kd.S_far (p := ⟨gb654, 4, none⟩) (Kd.S_far (p := ⟨gb654, 3, none⟩) (Kd.S_far (p := ⟨gb654, 2, none⟩) (Kd.S_far (p := ⟨gb654, 1, none⟩) (Kd.S_far (p := ⟨gb654, 0, none⟩) (Kd.S_types HO_9.out BK654.out (by decide)) (fun _ hk => hk.2) (.int .i64 ((rd_T56 l0 x31_2).f0))) (fun _ hk => hk.2) (.int .i64 ((rd_T56 l0 x31_2).f1))) (fun _ hk => hk.2) (.int .i64 ((rd_T56 l0 x31_2).f2))) (fun _ hk => hk.2) (.int .i64 ((rd_T56 l0 x31_2).f3.f0))) (fun _ hk => hk.2) (.int .i64 ((rd_T56 l0 x31_2).f3.f1))) (fun _ hk => hk.2) (.string ((rd_T56 l0 x31_2).f3.f2))) (fun _ hk => hk.2) (.int .i64 ((rd_T56 l0 x31_2).f3.f3))) (fun _ hk => hk.1)⟩, ⟨qK⟩, ⟨qB⟩⟩
         ·rw [if_neg c20] at H
          exact absurd H (by simp)
        ·exact absurd H (by simp)
       ·rw [if_neg c18] at H
        have c18b0 := decide_eq_false c18
        clear c18
        replace H := Option.bind_eq_some_iff.mp H
        obtain ⟨⟨t664, t667, t668⟩, A380, H⟩ := H
        (try dsimp -simprocs only at H)
        have A38 := Aside0.mk A380
        clear A380
        by_cases c39 : t668 = 0
        ·rw [if_pos c39] at H
         have c39b0 := beq_iff_eq.mpr c39
         have c39b1 := bne_eq_false_iff_eq.mpr c39
         clear c39
         replace H := Option.bind_eq_some_iff.mp H
         obtain ⟨⟨t670, t671, t672, t673, t674⟩, A400, H⟩ := H
         (try dsimp -simprocs only at H)
         have A40 := Aside0.mk A400
         clear A400
         have HC41 := Aside0.mk H
         clear H
         obtain ⟨hcz42_0, hcz42_1, hcz42_2, hcz42_3, hfz42_0, hfz42_1, hfz42_2, hfz42_3⟩ := cells4 BK647.out
         obtain ⟨Ao43, co43, eo43⟩ := Kd.S_slice HO_9.out
         subst eo43
         go_upto_region 20 with (first | ((with_reducible refine gc 41 rfl ?_); refine gl (some 66) #[.slice Ao43 x9_2.length co43, .int .i64 a1, .int .i64 a2, .agg #[.int .i64 a3_0, .int .i64 a3_1, .string a3_2, .int .i64 a3_3]] Tryd.func41 ?_; (with_reducible refine (tree_Tree_Put.calls k2 _ _ x9_2 a1 a2 a3_0 a3_1 a3_2 a3_3 t664 t667 t668 _ ?side1 ?side2 ?side3 A38.out).mono ?_); (case side1 => repeat (first | exact (Kd.S_reads' HO_9.out).2.2 | (with_reducible refine Kd.C_alloc ?_ _) | (with_reducible refine Kd.C_drewN ?_ _) | (with_reducible refine Kd.C_drew ?_))); (case side2 => exact (Kd.S_reads' HO_9.out).2.1); (case side3 => exact Laid.below HLD.out qB); rintro e w44 ⟨v665, rfl, ho0, hb⟩; refine ⟨_, rfl, ?_⟩; have n0_ := Aside0.mk (Kd.S_elder' (by (with_reducible repeat (first | apply Kd.S_alloc | apply Kd.S_drewN | apply Kd.S_drew)); exact HO_9.out) (Kd.S_base ho0) hb); have n1_ := Aside0.mk (Kd.S_lower (Kd.S_newB (Kd.S_new' ho0 (Kd.S_lt (by (with_reducible repeat (first | apply Kd.S_alloc | apply Kd.S_drewN | apply Kd.S_drew)); exact HO_9.out))) (g := gb647) (o := .cells #[.int .i64 a3_0, .int .i64 a3_1, .string a3_2, .int .i64 a3_3] 45 (0, 0)) qK) (below_size qB)); have n2_ := kb gb647 hb; have n3_ := bst hb; clear HO_9; clear BK647; clear HB; have HO_9 := n0_; have HO666 := n1_; have BK647 := n2_; have HB := n3_; clear n0_ n1_ n2_ n3_; (try clear hb); (try clear ho0); obtain ⟨Ao45, co45, eo45⟩ := Kd.S_slice HO666.out; subst eo45) | ((with_reducible refine gc 42 rfl ?_); refine gl (some 83) #[.slice Ao45 t664.length co45, .int .i64 t667, .int .i64 a2] Tryd.func42 ?_; (with_reducible refine (tree_Tree_Input.calls _ _ t664 t667 a2 t670 t671 t672 t673 t674 _ ?side1 ?side2 A40.out).mono ?_); (case side1 => repeat (first | exact (Kd.S_reads' HO666.out).2.2 | (with_reducible refine Kd.C_alloc ?_ _) | (with_reducible refine Kd.C_drewN ?_ _) | (with_reducible refine Kd.C_drew ?_))); (case side2 => exact (Kd.S_reads' HO666.out).2.1); rintro e w46 ⟨rfl, hb⟩; refine ⟨_, rfl, ?_⟩; have n0_ := Aside0.mk (Kd.S_below (by (with_reducible repeat (first | apply Kd.S_alloc | apply Kd.S_drewN | apply Kd.S_drew)); exact HO_9.out) hb); have n1_ := Aside0.mk (Kd.S_below (by (with_reducible repeat (first | apply Kd.S_alloc | apply Kd.S_drewN | apply Kd.S_drew)); exact HO666.out) hb); have n2_ := kb gb647 hb; have n3_ := bst hb; clear HO_9; clear HO666; clear BK647; clear HB; have HO_9 := n0_; have HO666 := n1_; have BK647 := n2_; have HB := n3_; clear n0_ n1_ n2_ n3_; (try clear hb)) | ((with_reducible refine gate_dst (N := 15) rfl ?_); (try (refine gate_guard (by rfl) ?_; dsimp only)); refine box_event ?hg (N := 15) ?hd (cs := #[.int .i64 0, .int .i64 0, .string (⟨#[]⟩ : ByteArray), .int .i64 0]) (t := 45) ?hr ?_; (case hd => rfl); (case hg => rfl); (case hr => first | (go_simp; done) | (go_simp; rfl)); intro gb675 hg w47 hbox hb; have n0_ := Aside0.mk (Kd.S_below (Kd.S_elderB (by (with_reducible repeat (first | apply Kd.S_alloc | apply Kd.S_drewN | apply Kd.S_drew)); exact HO_9.out) gb675 (Nat.le_of_eq hg.symm)) hb); have n1_ := Aside0.mk (Kd.S_below (Kd.S_elderB (by (with_reducible repeat (first | apply Kd.S_alloc | apply Kd.S_drewN | apply Kd.S_drew)); exact HO666.out) gb675 (Nat.le_of_eq hg.symm)) hb); have n2_ := kb gb647 hb; have n3_ := bst hb; have n4_ := Aside0.mk (hbox); have n5_ := geS hg; have n6_ := geS hg; have n7_ := neS gb647 hg; have n8_ := neT gb647 hg; clear HO_9; clear HO666; clear BK647; clear HB; have HO_9 := n0_; have HO666 := n1_; have BK647 := n2_; have HB := n3_; have BK675 := n4_; have GW675 := n5_; have GE675 := n6_; have NB647_675 := n7_; have NB675_647 := n8_; clear n0_ n1_ n2_ n3_ n4_ n5_ n6_ n7_ n8_; clear hb hbox hg; have hnb48 := NB675_647.out; have hnc48 := NB647_675.out; obtain ⟨hcz49_0, hcz49_1, hcz49_2, hcz49_3, hfz49_0, hfz49_1, hfz49_2, hfz49_3⟩ := cells4 BK675.out; obtain ⟨hcz50_0, hcz50_1, hcz50_2, hcz50_3, hfz50_0, hfz50_1, hfz50_2, hfz50_3⟩ := cells4 BK647.out))
         (try simp only [Act.put, List.setIfInBounds_toArray, List.set_cons_zero, List.set_cons_succ])
         go_cut [117] (fun v117 wc => ∃ (kq : Nat) (x117_40 : Bool), v117 = .bool x117_40 ∧ Aside0 (whirligiglaw22_TreeEnds.j2 kq a1 x9_2 t664 t667 x117_40 = some r) ∧ Aside0 (kq ≤ k2) ∧ Aside0 (Kd.S k43 43 wc w.heap.size (fun k_ => some k_ ≠ ((.slice Ao45 t664.length co45) : Value).ownBlock ∧ k_ ≠ gb647 ∧ k_ ≠ gb675) (.slice Ao43 x9_2.length co43) x9_2) ∧ Aside0 (Kd.S k43 43 wc w.heap.size (fun k_ => some k_ ≠ ((.slice Ao43 x9_2.length co43) : Value).ownBlock ∧ k_ ≠ gb647 ∧ k_ ≠ gb675) (.slice Ao45 t664.length co45) t664) ∧ Aside0 (wc.heap[gb647]? = some (.cells #[.int .i64 a2, .int .i64 a3_1, .string a3_2, .int .i64 a3_3] 45 (0, 0))) ∧ Aside0 (wc.heap[gb675]? = some (.cells #[.int .i64 t670, .int .i64 t671, .string t672, .int .i64 t673] 45 (0, 0))) ∧ Aside0 (Below w.heap.size w wc))
         case first =>
          have H := HC41.out
          clear HC41
          by_cases c51 : t674 = true
          ·subst c51
           rw [if_pos rfl] at H
           by_cases c52 : (!(t670 == a2) || (!(t671 == a3_1) || (!(t672.toList == a3_2.toList) || (!(t673 == a3_3))))) = true
           ·rw [if_pos c52] at H
            have c52b0 : (!(t670 == a2) || (!(t671 == a3_1) || (!(t672.toList == a3_2.toList) || (!(t673 == a3_3))))) = true := c52
            clear c52
            (first | rw [c52b0] | (simp only [i64_w, i32_w]; rw [c52b0]) | skip)
            have H' := Aside0.mk H
            clear H
            have hnb53 := NB675_647.out
            have hnc53 := NB647_675.out
            obtain ⟨hcz54_0, hcz54_1, hcz54_2, hcz54_3, hfz54_0, hfz54_1, hfz54_2, hfz54_3⟩ := cells4 BK675.out
            obtain ⟨hcz55_0, hcz55_1, hcz55_2, hcz55_3, hfz55_0, hfz55_1, hfz55_2, hfz55_3⟩ := cells4 BK647.out
            go_wp2
            go_meet
            case rel => exact ⟨_, (true), (by first | rfl | (simp; done) | (simp [*]; done)), H', ⟨by have := HJ6.out; have := HK2.out; first | omega | exact Nat.le_refl _⟩, ⟨by (with_reducible repeat (first | apply Kd.S_alloc | apply Kd.S_drewN | apply Kd.S_drew)); exact Kd.S_mono (Kd.S_far (p := ⟨gb647, 0, none⟩) (Kd.S_far (p := ⟨gb675, 3, none⟩) (Kd.S_far (p := ⟨gb675, 2, none⟩) (Kd.S_far (p := ⟨gb675, 1, none⟩) (Kd.S_far (p := ⟨gb675, 0, none⟩) (Kd.S_mono (Kd.S_mono HO_9.out (fun k_ hk => (⟨hk, hk.2⟩ : _ ∧ k_ ≠ gb675))) (fun k_ hk => (⟨hk, hk.1.1.1⟩ : _ ∧ k_ ≠ gb647))) (fun _ hk => hk.1.2) (.int .i64 t670)) (fun _ hk => hk.1.2) (.int .i64 t671)) (fun _ hk => hk.1.2) (.string t672)) (fun _ hk => hk.1.2) (.int .i64 t673)) (fun _ hk => hk.2) (.int .i64 a2)) (fun _ hk => ⟨hk.1.1.1.2, ⟨hk.1.1.1.1, hk.1.1.2⟩⟩)⟩, ⟨by (with_reducible repeat (first | apply Kd.S_alloc | apply Kd.S_drewN | apply Kd.S_drew)); exact Kd.S_mono (Kd.S_far (p := ⟨gb647, 0, none⟩) (Kd.S_far (p := ⟨gb675, 3, none⟩) (Kd.S_far (p := ⟨gb675, 2, none⟩) (Kd.S_far (p := ⟨gb675, 1, none⟩) (Kd.S_far (p := ⟨gb675, 0, none⟩) (Kd.S_mono (Kd.S_mono HO666.out (fun k_ hk => (⟨hk, hk.2⟩ : _ ∧ k_ ≠ gb675))) (fun k_ hk => (⟨hk, hk.1.1.2⟩ : _ ∧ k_ ≠ gb647))) (fun _ hk => hk.1.2) (.int .i64 t670)) (fun _ hk => hk.1.2) (.int .i64 t671)) (fun _ hk => hk.1.2) (.string t672)) (fun _ hk => hk.1.2) (.int .i64 t673)) (fun _ hk => hk.2) (.int .i64 a2)) (fun _ hk => ⟨hk.1.1.1.1.2, ⟨hk.1.1.1.2, hk.1.1.2⟩⟩)⟩, ⟨qP⟩, ⟨qP⟩, ⟨qB⟩⟩
           ·rw [if_neg c52] at H
            have c52b0 : (!(t670 == a2) || (!(t671 == a3_1) || (!(t672.toList == a3_2.toList) || (!(t673 == a3_3))))) = false := by simpa using c52
            clear c52
            (first | rw [c52b0] | (simp only [i64_w, i32_w]; rw [c52b0]) | skip)
            replace H := iD H
            rcases H with ⟨c56b0, H⟩ | ⟨c56b0, H⟩
            ·by_cases c57 : t667 < (t664.length : Int)
             ·rw [if_pos c57] at H
              have c57b0 := decide_eq_true c57
              clear c57
              by_cases c58 : ((rd_T43 t664 t667).f2) = (wrap64 (a2 + 1))
              ·rw [if_pos c58] at H
               have c58b0 := beq_iff_eq.mpr c58
               have c58b1 := bne_eq_false_iff_eq.mpr c58
               clear c58
               replace H := Option.bind_eq_some_iff.mp H
               obtain ⟨t677, A590, H⟩ := H
               (try dsimp -simprocs only at H)
               have A59 := Aside0.mk A590
               clear A590
               by_cases c60 : t677 = true
               ·subst c60
                rw [if_pos rfl] at H
                replace H := Option.bind_eq_some_iff.mp H
                obtain ⟨t678, A610, H⟩ := H
                (try dsimp -simprocs only at H)
                have A61 := Aside0.mk A610
                clear A610
                have H' := Aside0.mk H
                clear H
                have hnb62 := NB675_647.out
                have hnc62 := NB647_675.out
                obtain ⟨hcz63_0, hcz63_1, hcz63_2, hcz63_3, hfz63_0, hfz63_1, hfz63_2, hfz63_3⟩ := cells4 BK675.out
                obtain ⟨hcz64_0, hcz64_1, hcz64_2, hcz64_3, hfz64_0, hfz64_1, hfz64_2, hfz64_3⟩ := cells4 BK647.out
                have p676 : 0 ≤ (t667 : Int) := qD
                have q676 : t667 < (t664.length : Int) := qD
                obtain ⟨ad676, A676_3, c676_3, e676, hx676_0, hx676_1, hx676_2, hx676_3, hl676_3, hi676_3⟩ := at_T43 (Kd.S_reads' HO666.out).2.2 t667 p676 q676
                cases e676
                have hn676_0 : ad676.block ≠ gb675 := Kd.own_blk (Kd.S_ne HO666.out BK675.out (by decide))
                have hn676_1 : ad676.block ≠ gb675 := Kd.own_blk (Kd.S_ne HO666.out BK675.out (by decide))
                have hn676_2 : ad676.block ≠ gb675 := Kd.own_blk (Kd.S_ne HO666.out BK675.out (by decide))
                have hn676_3 : ad676.block ≠ gb675 := Kd.own_blk (Kd.S_ne HO666.out BK675.out (by decide))
                have hn676_4 : ad676.block ≠ gb647 := Kd.own_blk (Kd.S_ne HO666.out BK647.out (by decide))
                have HR676_3 := Aside0.mk hi676_3
                have HC676_3 := Aside0.mk hl676_3
                clear hi676_3 hl676_3
                replace hx676_0 := cfa ⟨gb675, 0, none⟩ (.int .i64 t670) hx676_0
                replace hx676_1 := cfa ⟨gb675, 0, none⟩ (.int .i64 t670) hx676_1
                replace hx676_2 := cfa ⟨gb675, 0, none⟩ (.int .i64 t670) hx676_2
                replace hx676_3 := cfa ⟨gb675, 0, none⟩ (.int .i64 t670) hx676_3
                replace hx676_0 := cfa ⟨gb675, 1, none⟩ (.int .i64 t671) hx676_0
                replace hx676_1 := cfa ⟨gb675, 1, none⟩ (.int .i64 t671) hx676_1
                replace hx676_2 := cfa ⟨gb675, 1, none⟩ (.int .i64 t671) hx676_2
                replace hx676_3 := cfa ⟨gb675, 1, none⟩ (.int .i64 t671) hx676_3
                replace hx676_0 := cfa ⟨gb675, 2, none⟩ (.string t672) hx676_0
                replace hx676_1 := cfa ⟨gb675, 2, none⟩ (.string t672) hx676_1
                replace hx676_2 := cfa ⟨gb675, 2, none⟩ (.string t672) hx676_2
                replace hx676_3 := cfa ⟨gb675, 2, none⟩ (.string t672) hx676_3
                replace hx676_0 := cfa ⟨gb675, 3, none⟩ (.int .i64 t673) hx676_0
                replace hx676_1 := cfa ⟨gb675, 3, none⟩ (.int .i64 t673) hx676_1
                replace hx676_2 := cfa ⟨gb675, 3, none⟩ (.int .i64 t673) hx676_2
                replace hx676_3 := cfa ⟨gb675, 3, none⟩ (.int .i64 t673) hx676_3
                replace hx676_0 := cfa ⟨gb647, 0, none⟩ (.int .i64 a2) hx676_0
                replace hx676_1 := cfa ⟨gb647, 0, none⟩ (.int .i64 a2) hx676_1
                replace hx676_2 := cfa ⟨gb647, 0, none⟩ (.int .i64 a2) hx676_2
                replace hx676_3 := cfa ⟨gb647, 0, none⟩ (.int .i64 a2) hx676_3
                clear hn676_0
                clear hn676_1
                clear hn676_2
                clear hn676_3
                clear hn676_4
                replace p676 := eq_true p676
                replace q676 := eq_true q676
                go_wp2_with (first | (go_at_call 35; (with_reducible refine (tree_Tree_Right.calls k2 _ _ t664 true _ ?side1 ?side2 ?side3 A59.out).mono ?_); (case side1 => refine (Kd.S_reads' (e := 43) (base := w.heap.size) (ok := fun k_ => (((True ∧ some k_ ≠ (.slice Ao43 x9_2.length co43 : Value).ownBlock) ∧ k_ ≠ gb647) ∧ k_ ≠ gb675)) (n := t664.length) (c := co45) ?_).2.2; exact (by (with_reducible repeat (first | apply Kd.S_alloc | apply Kd.S_drewN | apply Kd.S_drew)); exact (Kd.S_mono (Kd.S_mono (Kd.S_far (p := ⟨gb647, 0, none⟩) (Kd.S_far (p := ⟨gb675, 3, none⟩) (Kd.S_far (p := ⟨gb675, 2, none⟩) (Kd.S_far (p := ⟨gb675, 1, none⟩) (Kd.S_far (p := ⟨gb675, 0, none⟩) (Kd.S_mono (Kd.S_mono HO666.out (fun k_ hk => (⟨hk, hk.2⟩ : _ ∧ k_ ≠ gb675))) (fun k_ hk => (⟨hk, hk.1.1.2⟩ : _ ∧ k_ ≠ gb647))) (fun _ hk => hk.1.2) (.int .i64 t670)) (fun _ hk => hk.1.2) (.int .i64 t671)) (fun _ hk => hk.1.2) (.string t672)) (fun _ hk => hk.1.2) (.int .i64 t673)) (fun _ hk => hk.2) (.int .i64 a2)) (fun _ h_ => h_.1)) (fun _ h_ => h_.1)))); (case side2 => exact (Kd.S_reads' HO666.out).2.1); (case side3 => exact Laid.below HLD.out qB); rintro e w65 ⟨rfl, hb⟩; have n0_ := Aside0.mk (Kd.S_below (by (with_reducible repeat (first | apply Kd.S_alloc | apply Kd.S_drewN | apply Kd.S_drew)); exact (Kd.S_mono (Kd.S_mono (Kd.S_far (p := ⟨gb647, 0, none⟩) (Kd.S_far (p := ⟨gb675, 3, none⟩) (Kd.S_far (p := ⟨gb675, 2, none⟩) (Kd.S_far (p := ⟨gb675, 1, none⟩) (Kd.S_far (p := ⟨gb675, 0, none⟩) (Kd.S_mono (Kd.S_mono HO_9.out (fun k_ hk => (⟨hk, hk.2⟩ : _ ∧ k_ ≠ gb675))) (fun k_ hk => (⟨hk, hk.1.1.1⟩ : _ ∧ k_ ≠ gb647))) (fun _ hk => hk.1.2) (.int .i64 t670)) (fun _ hk => hk.1.2) (.int .i64 t671)) (fun _ hk => hk.1.2) (.string t672)) (fun _ hk => hk.1.2) (.int .i64 t673)) (fun _ hk => hk.2) (.int .i64 a2)) (fun _ h_ => h_.1)) (fun _ h_ => h_.1))) hb); have n1_ := Aside0.mk (Kd.S_below (by (with_reducible repeat (first | apply Kd.S_alloc | apply Kd.S_drewN | apply Kd.S_drew)); exact (Kd.S_mono (Kd.S_mono (Kd.S_far (p := ⟨gb647, 0, none⟩) (Kd.S_far (p := ⟨gb675, 3, none⟩) (Kd.S_far (p := ⟨gb675, 2, none⟩) (Kd.S_far (p := ⟨gb675, 1, none⟩) (Kd.S_far (p := ⟨gb675, 0, none⟩) (Kd.S_mono (Kd.S_mono HO666.out (fun k_ hk => (⟨hk, hk.2⟩ : _ ∧ k_ ≠ gb675))) (fun k_ hk => (⟨hk, hk.1.1.2⟩ : _ ∧ k_ ≠ gb647))) (fun _ hk => hk.1.2) (.int .i64 t670)) (fun _ hk => hk.1.2) (.int .i64 t671)) (fun _ hk => hk.1.2) (.string t672)) (fun _ hk => hk.1.2) (.int .i64 t673)) (fun _ hk => hk.2) (.int .i64 a2)) (fun _ h_ => h_.1)) (fun _ h_ => h_.1))) hb); have n2_ := kp gb647 (.cells #[.int .i64 a2, .int .i64 a3_1, .string a3_2, .int .i64 a3_3] 45 (0, 0)) hb; have n3_ := kp gb675 (.cells #[.int .i64 t670, .int .i64 t671, .string t672, .int .i64 t673] 45 (0, 0)) hb; have n4_ := bst hb; clear HO_9; clear HO666; clear BK647; clear BK675; clear HB; have HO_9 := n0_; have HO666 := n1_; have BK647 := n2_; have BK675 := n3_; have HB := n4_; clear n0_ n1_ n2_ n3_ n4_; (try clear hb)) | (go_at_call 44; (with_reducible refine (tree_Tree_Common.calls k2 _ _ t664 a1 t667 t678 _ ?side1 ?side2 A61.out).mono ?_); (case side1 => repeat (first | exact (Kd.S_reads' HO666.out).2.2 | (with_reducible refine Kd.C_alloc ?_ _) | (with_reducible refine Kd.C_drewN ?_ _) | (with_reducible refine Kd.C_drew ?_))); (case side2 => exact (Kd.S_reads' HO666.out).2.1); rintro e w66 ⟨rfl, hb⟩; have n0_ := Aside0.mk (Kd.S_below (by (with_reducible repeat (first | apply Kd.S_alloc | apply Kd.S_drewN | apply Kd.S_drew)); exact HO_9.out) hb); have n1_ := Aside0.mk (Kd.S_below (by (with_reducible repeat (first | apply Kd.S_alloc | apply Kd.S_drewN | apply Kd.S_drew)); exact HO666.out) hb); have n2_ := kb gb647 hb; have n3_ := kb gb675 hb; have n4_ := bst hb; clear HO_9; clear HO666; clear BK647; clear BK675; clear HB; have HO_9 := n0_; have HO666 := n1_; have BK647 := n2_; have BK675 := n3_; have HB := n4_; clear n0_ n1_ n2_ n3_ n4_; (try clear hb)))
                go_meet
                case rel => exact ⟨_, (decide (t678 < a2)), (by first | rfl | (simp; done) | (simp [*]; done)), H', ⟨by have := HJ6.out; have := HK2.out; first | omega | exact Nat.le_refl _⟩, ⟨by (with_reducible repeat (first | apply Kd.S_alloc | apply Kd.S_drewN | apply Kd.S_drew)); exact Kd.S_mono HO_9.out (fun _ hk => ⟨hk.1.2, ⟨hk.1.1, hk.2⟩⟩)⟩, ⟨by (with_reducible repeat (first | apply Kd.S_alloc | apply Kd.S_drewN | apply Kd.S_drew)); exact Kd.S_mono HO666.out (fun _ hk => ⟨hk.1.1.2, ⟨hk.1.2, hk.2⟩⟩)⟩, ⟨qK⟩, ⟨qK⟩, ⟨qB⟩⟩
               ·replace c60 := Bool.eq_false_iff.mpr c60
                subst c60
                rw [if_neg (show ¬ (false = true) by decide)] at H
                have H' := Aside0.mk H
                clear H
                have hnb67 := NB675_647.out
                have hnc67 := NB647_675.out
                obtain ⟨hcz68_0, hcz68_1, hcz68_2, hcz68_3, hfz68_0, hfz68_1, hfz68_2, hfz68_3⟩ := cells4 BK675.out
                obtain ⟨hcz69_0, hcz69_1, hcz69_2, hcz69_3, hfz69_0, hfz69_1, hfz69_2, hfz69_3⟩ := cells4 BK647.out
                have p676 : 0 ≤ (t667 : Int) := qD
                have q676 : t667 < (t664.length : Int) := qD
                obtain ⟨ad676, A676_3, c676_3, e676, hx676_0, hx676_1, hx676_2, hx676_3, hl676_3, hi676_3⟩ := at_T43 (Kd.S_reads' HO666.out).2.2 t667 p676 q676
                cases e676
                have hn676_0 : ad676.block ≠ gb675 := Kd.own_blk (Kd.S_ne HO666.out BK675.out (by decide))
                have hn676_1 : ad676.block ≠ gb675 := Kd.own_blk (Kd.S_ne HO666.out BK675.out (by decide))
                have hn676_2 : ad676.block ≠ gb675 := Kd.own_blk (Kd.S_ne HO666.out BK675.out (by decide))
                have hn676_3 : ad676.block ≠ gb675 := Kd.own_blk (Kd.S_ne HO666.out BK675.out (by decide))
                have hn676_4 : ad676.block ≠ gb647 := Kd.own_blk (Kd.S_ne HO666.out BK647.out (by decide))
                have HR676_3 := Aside0.mk hi676_3
                have HC676_3 := Aside0.mk hl676_3
                clear hi676_3 hl676_3
                replace hx676_0 := cfa ⟨gb675, 0, none⟩ (.int .i64 t670) hx676_0
                replace hx676_1 := cfa ⟨gb675, 0, none⟩ (.int .i64 t670) hx676_1
                replace hx676_2 := cfa ⟨gb675, 0, none⟩ (.int .i64 t670) hx676_2
                replace hx676_3 := cfa ⟨gb675, 0, none⟩ (.int .i64 t670) hx676_3
                replace hx676_0 := cfa ⟨gb675, 1, none⟩ (.int .i64 t671) hx676_0
                replace hx676_1 := cfa ⟨gb675, 1, none⟩ (.int .i64 t671) hx676_1
                replace hx676_2 := cfa ⟨gb675, 1, none⟩ (.int .i64 t671) hx676_2
                replace hx676_3 := cfa ⟨gb675, 1, none⟩ (.int .i64 t671) hx676_3
                replace hx676_0 := cfa ⟨gb675, 2, none⟩ (.string t672) hx676_0
                replace hx676_1 := cfa ⟨gb675, 2, none⟩ (.string t672) hx676_1
                replace hx676_2 := cfa ⟨gb675, 2, none⟩ (.string t672) hx676_2
                replace hx676_3 := cfa ⟨gb675, 2, none⟩ (.string t672) hx676_3
                replace hx676_0 := cfa ⟨gb675, 3, none⟩ (.int .i64 t673) hx676_0
                replace hx676_1 := cfa ⟨gb675, 3, none⟩ (.int .i64 t673) hx676_1
                replace hx676_2 := cfa ⟨gb675, 3, none⟩ (.int .i64 t673) hx676_2
                replace hx676_3 := cfa ⟨gb675, 3, none⟩ (.int .i64 t673) hx676_3
                replace hx676_0 := cfa ⟨gb647, 0, none⟩ (.int .i64 a2) hx676_0
                replace hx676_1 := cfa ⟨gb647, 0, none⟩ (.int .i64 a2) hx676_1
                replace hx676_2 := cfa ⟨gb647, 0, none⟩ (.int .i64 a2) hx676_2
                replace hx676_3 := cfa ⟨gb647, 0, none⟩ (.int .i64 a2) hx676_3
                clear hn676_0
                clear hn676_1
                clear hn676_2
                clear hn676_3
                clear hn676_4
                replace p676 := eq_true p676
                replace q676 := eq_true q676
                go_wp2_with (first | (go_at_call 35; (with_reducible refine (tree_Tree_Right.calls k2 _ _ t664 false _ ?side1 ?side2 ?side3 A59.out).mono ?_); (case side1 => refine (Kd.S_reads' (e := 43) (base := w.heap.size) (ok := fun k_ => (((True ∧ some k_ ≠ (.slice Ao43 x9_2.length co43 : Value).ownBlock) ∧ k_ ≠ gb647) ∧ k_ ≠ gb675)) (n := t664.length) (c := co45) ?_).2.2; exact (by (with_reducible repeat (first | apply Kd.S_alloc | apply Kd.S_drewN | apply Kd.S_drew)); exact (Kd.S_mono (Kd.S_mono (Kd.S_far (p := ⟨gb647, 0, none⟩) (Kd.S_far (p := ⟨gb675, 3, none⟩) (Kd.S_far (p := ⟨gb675, 2, none⟩) (Kd.S_far (p := ⟨gb675, 1, none⟩) (Kd.S_far (p := ⟨gb675, 0, none⟩) (Kd.S_mono (Kd.S_mono HO666.out (fun k_ hk => (⟨hk, hk.2⟩ : _ ∧ k_ ≠ gb675))) (fun k_ hk => (⟨hk, hk.1.1.2⟩ : _ ∧ k_ ≠ gb647))) (fun _ hk => hk.1.2) (.int .i64 t670)) (fun _ hk => hk.1.2) (.int .i64 t671)) (fun _ hk => hk.1.2) (.string t672)) (fun _ hk => hk.1.2) (.int .i64 t673)) (fun _ hk => hk.2) (.int .i64 a2)) (fun _ h_ => h_.1)) (fun _ h_ => h_.1)))); (case side2 => exact (Kd.S_reads' HO666.out).2.1); (case side3 => exact Laid.below HLD.out qB); rintro e w70 ⟨rfl, hb⟩; have n0_ := Aside0.mk (Kd.S_below (by (with_reducible repeat (first | apply Kd.S_alloc | apply Kd.S_drewN | apply Kd.S_drew)); exact (Kd.S_mono (Kd.S_mono (Kd.S_far (p := ⟨gb647, 0, none⟩) (Kd.S_far (p := ⟨gb675, 3, none⟩) (Kd.S_far (p := ⟨gb675, 2, none⟩) (Kd.S_far (p := ⟨gb675, 1, none⟩) (Kd.S_far (p := ⟨gb675, 0, none⟩) (Kd.S_mono (Kd.S_mono HO_9.out (fun k_ hk => (⟨hk, hk.2⟩ : _ ∧ k_ ≠ gb675))) (fun k_ hk => (⟨hk, hk.1.1.1⟩ : _ ∧ k_ ≠ gb647))) (fun _ hk => hk.1.2) (.int .i64 t670)) (fun _ hk => hk.1.2) (.int .i64 t671)) (fun _ hk => hk.1.2) (.string t672)) (fun _ hk => hk.1.2) (.int .i64 t673)) (fun _ hk => hk.2) (.int .i64 a2)) (fun _ h_ => h_.1)) (fun _ h_ => h_.1))) hb); have n1_ := Aside0.mk (Kd.S_below (by (with_reducible repeat (first | apply Kd.S_alloc | apply Kd.S_drewN | apply Kd.S_drew)); exact (Kd.S_mono (Kd.S_mono (Kd.S_far (p := ⟨gb647, 0, none⟩) (Kd.S_far (p := ⟨gb675, 3, none⟩) (Kd.S_far (p := ⟨gb675, 2, none⟩) (Kd.S_far (p := ⟨gb675, 1, none⟩) (Kd.S_far (p := ⟨gb675, 0, none⟩) (Kd.S_mono (Kd.S_mono HO666.out (fun k_ hk => (⟨hk, hk.2⟩ : _ ∧ k_ ≠ gb675))) (fun k_ hk => (⟨hk, hk.1.1.2⟩ : _ ∧ k_ ≠ gb647))) (fun _ hk => hk.1.2) (.int .i64 t670)) (fun _ hk => hk.1.2) (.int .i64 t671)) (fun _ hk => hk.1.2) (.string t672)) (fun _ hk => hk.1.2) (.int .i64 t673)) (fun _ hk => hk.2) (.int .i64 a2)) (fun _ h_ => h_.1)) (fun _ h_ => h_.1))) hb); have n2_ := kp gb647 (.cells #[.int .i64 a2, .int .i64 a3_1, .string a3_2, .int .i64 a3_3] 45 (0, 0)) hb; have n3_ := kp gb675 (.cells #[.int .i64 t670, .int .i64 t671, .string t672, .int .i64 t673] 45 (0, 0)) hb; have n4_ := bst hb; clear HO_9; clear HO666; clear BK647; clear BK675; clear HB; have HO_9 := n0_; have HO666 := n1_; have BK647 := n2_; have BK675 := n3_; have HB := n4_; clear n0_ n1_ n2_ n3_ n4_; (try clear hb)))
                go_meet
                case rel => exact ⟨_, (true), (by first | rfl | (simp; done) | (simp [*]; done)), H', ⟨by have := HJ6.out; have := HK2.out; first | omega | exact Nat.le_refl _⟩, ⟨by (with_reducible repeat (first | apply Kd.S_alloc | apply Kd.S_drewN | apply Kd.S_drew)); exact Kd.S_mono HO_9.out (fun _ hk => ⟨hk.1.2, ⟨hk.1.1, hk.2⟩⟩)⟩, ⟨by (with_reducible repeat (first | apply Kd.S_alloc | apply Kd.S_drewN | apply Kd.S_drew)); exact Kd.S_mono HO666.out (fun _ hk => ⟨hk.1.1.2, ⟨hk.1.2, hk.2⟩⟩)⟩, ⟨qK⟩, ⟨qK⟩, ⟨qB⟩⟩
              ·rw [if_neg c58] at H
               have c58b0 := beq_eq_false_iff_ne.mpr c58
               have c58b1 := bne_iff_ne.mpr c58
               have H' := Aside0.mk H
               clear H
               have hnb71 := NB675_647.out
               have hnc71 := NB647_675.out
               obtain ⟨hcz72_0, hcz72_1, hcz72_2, hcz72_3, hfz72_0, hfz72_1, hfz72_2, hfz72_3⟩ := cells4 BK675.out
               obtain ⟨hcz73_0, hcz73_1, hcz73_2, hcz73_3, hfz73_0, hfz73_1, hfz73_2, hfz73_3⟩ := cells4 BK647.out
               have p676 : 0 ≤ (t667 : Int) := qD
               have q676 : t667 < (t664.length : Int) := qD
               obtain ⟨ad676, A676_3, c676_3, e676, hx676_0, hx676_1, hx676_2, hx676_3, hl676_3, hi676_3⟩ := at_T43 (Kd.S_reads' HO666.out).2.2 t667 p676 q676
               cases e676
               have hn676_0 : ad676.block ≠ gb675 := Kd.own_blk (Kd.S_ne HO666.out BK675.out (by decide))
               have hn676_1 : ad676.block ≠ gb675 := Kd.own_blk (Kd.S_ne HO666.out BK675.out (by decide))
               have hn676_2 : ad676.block ≠ gb675 := Kd.own_blk (Kd.S_ne HO666.out BK675.out (by decide))
               have hn676_3 : ad676.block ≠ gb675 := Kd.own_blk (Kd.S_ne HO666.out BK675.out (by decide))
               have hn676_4 : ad676.block ≠ gb647 := Kd.own_blk (Kd.S_ne HO666.out BK647.out (by decide))
               have HR676_3 := Aside0.mk hi676_3
               have HC676_3 := Aside0.mk hl676_3
               clear hi676_3 hl676_3
               replace hx676_0 := cfa ⟨gb675, 0, none⟩ (.int .i64 t670) hx676_0
               replace hx676_1 := cfa ⟨gb675, 0, none⟩ (.int .i64 t670) hx676_1
               replace hx676_2 := cfa ⟨gb675, 0, none⟩ (.int .i64 t670) hx676_2
               replace hx676_3 := cfa ⟨gb675, 0, none⟩ (.int .i64 t670) hx676_3
               replace hx676_0 := cfa ⟨gb675, 1, none⟩ (.int .i64 t671) hx676_0
               replace hx676_1 := cfa ⟨gb675, 1, none⟩ (.int .i64 t671) hx676_1
               replace hx676_2 := cfa ⟨gb675, 1, none⟩ (.int .i64 t671) hx676_2
               replace hx676_3 := cfa ⟨gb675, 1, none⟩ (.int .i64 t671) hx676_3
               replace hx676_0 := cfa ⟨gb675, 2, none⟩ (.string t672) hx676_0
               replace hx676_1 := cfa ⟨gb675, 2, none⟩ (.string t672) hx676_1
               replace hx676_2 := cfa ⟨gb675, 2, none⟩ (.string t672) hx676_2
               replace hx676_3 := cfa ⟨gb675, 2, none⟩ (.string t672) hx676_3
               replace hx676_0 := cfa ⟨gb675, 3, none⟩ (.int .i64 t673) hx676_0
               replace hx676_1 := cfa ⟨gb675, 3, none⟩ (.int .i64 t673) hx676_1
               replace hx676_2 := cfa ⟨gb675, 3, none⟩ (.int .i64 t673) hx676_2
               replace hx676_3 := cfa ⟨gb675, 3, none⟩ (.int .i64 t673) hx676_3
               replace hx676_0 := cfa ⟨gb647, 0, none⟩ (.int .i64 a2) hx676_0
               replace hx676_1 := cfa ⟨gb647, 0, none⟩ (.int .i64 a2) hx676_1
               replace hx676_2 := cfa ⟨gb647, 0, none⟩ (.int .i64 a2) hx676_2
               replace hx676_3 := cfa ⟨gb647, 0, none⟩ (.int .i64 a2) hx676_3
               clear hn676_0
               clear hn676_1
               clear hn676_2
               clear hn676_3
               clear hn676_4
               replace p676 := eq_true p676
               replace q676 := eq_true q676
               go_wp2
               go_meet
               case rel => exact ⟨_, (true), (by first | rfl | (simp; done) | (simp [*]; done)), H', ⟨by have := HJ6.out; have := HK2.out; first | omega | exact Nat.le_refl _⟩, ⟨by (with_reducible repeat (first | apply Kd.S_alloc | apply Kd.S_drewN | apply Kd.S_drew)); exact Kd.S_mono (Kd.S_far (p := ⟨gb647, 0, none⟩) (Kd.S_far (p := ⟨gb675, 3, none⟩) (Kd.S_far (p := ⟨gb675, 2, none⟩) (Kd.S_far (p := ⟨gb675, 1, none⟩) (Kd.S_far (p := ⟨gb675, 0, none⟩) (Kd.S_mono (Kd.S_mono HO_9.out (fun k_ hk => (⟨hk, hk.2⟩ : _ ∧ k_ ≠ gb675))) (fun k_ hk => (⟨hk, hk.1.1.1⟩ : _ ∧ k_ ≠ gb647))) (fun _ hk => hk.1.2) (.int .i64 t670)) (fun _ hk => hk.1.2) (.int .i64 t671)) (fun _ hk => hk.1.2) (.string t672)) (fun _ hk => hk.1.2) (.int .i64 t673)) (fun _ hk => hk.2) (.int .i64 a2)) (fun _ hk => ⟨hk.1.1.1.2, ⟨hk.1.1.1.1, hk.1.1.2⟩⟩)⟩, ⟨by (with_reducible repeat (first | apply Kd.S_alloc | apply Kd.S_drewN | apply Kd.S_drew)); exact Kd.S_mono (Kd.S_far (p := ⟨gb647, 0, none⟩) (Kd.S_far (p := ⟨gb675, 3, none⟩) (Kd.S_far (p := ⟨gb675, 2, none⟩) (Kd.S_far (p := ⟨gb675, 1, none⟩) (Kd.S_far (p := ⟨gb675, 0, none⟩) (Kd.S_mono (Kd.S_mono HO666.out (fun k_ hk => (⟨hk, hk.2⟩ : _ ∧ k_ ≠ gb675))) (fun k_ hk => (⟨hk, hk.1.1.2⟩ : _ ∧ k_ ≠ gb647))) (fun _ hk => hk.1.2) (.int .i64 t670)) (fun _ hk => hk.1.2) (.int .i64 t671)) (fun _ hk => hk.1.2) (.string t672)) (fun _ hk => hk.1.2) (.int .i64 t673)) (fun _ hk => hk.2) (.int .i64 a2)) (fun _ hk => ⟨hk.1.1.1.1.2, ⟨hk.1.1.1.2, hk.1.1.2⟩⟩)⟩, ⟨qP⟩, ⟨qP⟩, ⟨qB⟩⟩
             ·rw [if_neg c57] at H
              exact absurd H (by simp)
            ·exact absurd H (by simp)
          ·replace c51 := Bool.eq_false_iff.mpr c51
           subst c51
           rw [if_neg (show ¬ (false = true) by decide)] at H
           have H' := Aside0.mk H
           clear H
           go_wp2
           go_meet
           case rel => exact ⟨_, (true), (by first | rfl | (simp; done) | (simp [*]; done)), H', ⟨by have := HJ6.out; have := HK2.out; first | omega | exact Nat.le_refl _⟩, ⟨by (with_reducible repeat (first | apply Kd.S_alloc | apply Kd.S_drewN | apply Kd.S_drew)); exact Kd.S_mono (Kd.S_far (p := ⟨gb647, 0, none⟩) (Kd.S_far (p := ⟨gb675, 3, none⟩) (Kd.S_far (p := ⟨gb675, 2, none⟩) (Kd.S_far (p := ⟨gb675, 1, none⟩) (Kd.S_far (p := ⟨gb675, 0, none⟩) (Kd.S_mono (Kd.S_mono HO_9.out (fun k_ hk => (⟨hk, hk.2⟩ : _ ∧ k_ ≠ gb675))) (fun k_ hk => (⟨hk, hk.1.1.1⟩ : _ ∧ k_ ≠ gb647))) (fun _ hk => hk.1.2) (.int .i64 t670)) (fun _ hk => hk.1.2) (.int .i64 t671)) (fun _ hk => hk.1.2) (.string t672)) (fun _ hk => hk.1.2) (.int .i64 t673)) (fun _ hk => hk.2) (.int .i64 a2)) (fun _ hk => ⟨hk.1.1.1.2, ⟨hk.1.1.1.1, hk.1.1.2⟩⟩)⟩, ⟨by (with_reducible repeat (first | apply Kd.S_alloc | apply Kd.S_drewN | apply Kd.S_drew)); exact Kd.S_mono (Kd.S_far (p := ⟨gb647, 0, none⟩) (Kd.S_far (p := ⟨gb675, 3, none⟩) (Kd.S_far (p := ⟨gb675, 2, none⟩) (Kd.S_far (p := ⟨gb675, 1, none⟩) (Kd.S_far (p := ⟨gb675, 0, none⟩) (Kd.S_mono (Kd.S_mono HO666.out (fun k_ hk => (⟨hk, hk.2⟩ : _ ∧ k_ ≠ gb675))) (fun k_ hk => (⟨hk, hk.1.1.2⟩ : _ ∧ k_ ≠ gb647))) (fun _ hk => hk.1.2) (.int .i64 t670)) (fun _ hk => hk.1.2) (.int .i64 t671)) (fun _ hk => hk.1.2) (.string t672)) (fun _ hk => hk.1.2) (.int .i64 t673)) (fun _ hk => hk.2) (.int .i64 a2)) (fun _ hk => ⟨hk.1.1.1.1.2, ⟨hk.1.1.1.2, hk.1.1.2⟩⟩)⟩, ⟨qP⟩, ⟨qP⟩, ⟨qB⟩⟩
         case rest =>
          clear HC41
          try clear c1
          try clear c2
          try clear p2 p2
          try clear c3
          try clear c4
          try clear c5
          try clear c6
          try clear p6
          try clear q6
          try clear hx6
          try clear c7
          try clear c11
          try clear c15
          try clear c18
          try clear c18b0
          try clear c19
          try clear c19b0
          try clear c20
          try clear c20b0
          try clear c21
          try clear c21b0
          try clear c21b1
          try clear c24
          try clear c28
          try clear c28b0
          try clear c28b1
          try clear c31
          try clear c32
          try clear c36
          try clear c38
          try clear c39
          try clear c39b0
          try clear c39b1
          try clear c40
          try clear c41
          try clear c42
          try clear c48
          try clear c51
          try clear c52
          try clear c52b0
          try clear c53
          try clear c56
          try clear c56b0
          try clear c57
          try clear c57b0
          try clear c58
          try clear c58b0
          try clear c58b1
          try clear c60
          try clear c62
          try clear p64
          try clear p65
          try clear q65
          try clear hx65
          try clear c67
          try clear p67
          try clear q67
          try clear hx67
          try clear c71
          try clear hcz13_0 hcz13_1 hcz13_2 hcz13_3 hfz13_0 hfz13_1 hfz13_2 hfz13_3
          try clear hcz25_0 hcz25_1 hcz25_2 hcz25_3 hcz25_4 hcz25_5 hcz25_6 hfz25_0 hfz25_1 hfz25_2 hfz25_3 hfz25_4 hfz25_5 hfz25_6
          try clear hcz32_0 hcz32_1 hcz32_2 hcz32_3 hcz32_4 hcz32_5 hcz32_6 hfz32_0 hfz32_1 hfz32_2 hfz32_3 hfz32_4 hfz32_5 hfz32_6
          try clear hcz37_0 hcz37_1 hcz37_2 hcz37_3 hcz37_4 hcz37_5 hcz37_6 hfz37_0 hfz37_1 hfz37_2 hfz37_3 hfz37_4 hfz37_5 hfz37_6
          try clear hcz42_0 hcz42_1 hcz42_2 hcz42_3 hfz42_0 hfz42_1 hfz42_2 hfz42_3
          try clear hcz49_0 hcz49_1 hcz49_2 hcz49_3 hfz49_0 hfz49_1 hfz49_2 hfz49_3
          try clear hcz50_0 hcz50_1 hcz50_2 hcz50_3 hfz50_0 hfz50_1 hfz50_2 hfz50_3
          try clear hcz54_0 hcz54_1 hcz54_2 hcz54_3 hfz54_0 hfz54_1 hfz54_2 hfz54_3
          try clear hcz55_0 hcz55_1 hcz55_2 hcz55_3 hfz55_0 hfz55_1 hfz55_2 hfz55_3
          try clear hcz63_0 hcz63_1 hcz63_2 hcz63_3 hfz63_0 hfz63_1 hfz63_2 hfz63_3
          try clear hcz64_0 hcz64_1 hcz64_2 hcz64_3 hfz64_0 hfz64_1 hfz64_2 hfz64_3
          try clear hcz68_0 hcz68_1 hcz68_2 hcz68_3 hfz68_0 hfz68_1 hfz68_2 hfz68_3
          try clear hcz69_0 hcz69_1 hcz69_2 hcz69_3 hfz69_0 hfz69_1 hfz69_2 hfz69_3
          try clear hcz72_0 hcz72_1 hcz72_2 hcz72_3 hfz72_0 hfz72_1 hfz72_2 hfz72_3
          try clear hcz73_0 hcz73_1 hcz73_2 hcz73_3 hfz73_0 hfz73_1 hfz73_2 hfz73_3
          try clear hx653_0
          try clear hx653_1
          try clear hx653_2
          try clear hx653_3
          try clear hx653_4
          try clear hx653_5
          try clear hx653_6
          try clear hx676_0
          try clear hx676_1
          try clear hx676_2
          try clear hx676_3
          try clear p653
          try clear p676
          try clear q653
          try clear q676
          obtain ⟨kq, x117_40, rfl, HA, HJ40, HO_9, HO_12, BK647, BK675, HB⟩ := hcut
          cases kq with
          | zero => exact absurd HA.out (by simp [whirligiglaw22_TreeEnds.j2])
          | succ kj40 =>
           have H := HA.out
           clear HA
           simp only [whirligiglaw22_TreeEnds.j2] at H
           by_cases c74 : x117_40 = true
           ·subst c74
            rw [if_pos rfl] at H
            obtain rfl := Option.some.inj H
            go_wp2
            go_ret
            exact ⟨qR, qB⟩
           ·replace c74 := Bool.eq_false_iff.mpr c74
            subst c74
            rw [if_neg (show ¬ (false = true) by decide)] at H
            by_cases c75 : t667 = a1
            ·rw [if_pos c75] at H
             have c75b0 := beq_iff_eq.mpr c75
             have c75b1 := bne_eq_false_iff_eq.mpr c75
             clear c75
             by_cases c76 : (t664.length : Int) = (x9_2.length : Int)
             ·rw [if_pos c76] at H
              have c76b0 := beq_iff_eq.mpr c76
              have c76b1 := bne_eq_false_iff_eq.mpr c76
              have c76b2 : (t664.length == x9_2.length) = true := by first | simpa using c76 | (simp at c76 ⊢; omega)
              clear c76
              by_cases c77 : 0 ≤ a1
              ·rw [if_pos c77] at H
               have c77b0 := eq_true c77
               have c77b1 := decide_eq_true c77
               clear c77
               by_cases c78 : a1 ≤ (t664.length : Int)
               ·rw [if_pos c78] at H
                have c78b0 := eq_true c78
                have c78b1 := decide_eq_true c78
                clear c78
                obtain ⟨y679, hy679⟩ : ∃ y_ : List (S43), y_ = (t664.take (a1 : Int).toNat) := ⟨_, rfl⟩
                replace H : (if a1 ≤ (x9_2.length : Int) then ((tree_Tree_Same.f kj40 y679 (x9_2.take (a1 : Int).toNat)).bind fun t687 => (if t687 = true then (if 0 ≤ (wrap64 (a1 + 1)) then (if (wrap64 (a1 + 1)) ≤ (t664.length : Int) then (if (wrap64 (a1 + 1)) ≤ (x9_2.length : Int) then ((tree_Tree_Same.f kj40 (t664.drop ((wrap64 (a1 + 1)) : Int).toNat) (x9_2.drop ((wrap64 (a1 + 1)) : Int).toNat)).bind fun t696 => (some t696)) else (none)) else (none)) else (none)) else (some false))) else (none)) = some r := by first | (rw [hy679]; with_reducible exact H) | (have H2_ := (Option.bind_some _ _).symm.trans H; rw [hy679]; with_reducible exact H2_) | (have H2_ := (Option.bind_some _ _).symm.trans H; with_reducible exact H2_) | with_reducible exact H | (rw [hy679]; exact H) | exact H
                have Ny679 := Aside0.mk hy679
                clear hy679
                have c79b0 := eq_true (qD : 0 ≤ a1)
                by_cases c80 : a1 ≤ (x9_2.length : Int)
                ·rw [if_pos c80] at H
                 have c80b0 := eq_true c80
                 have c80b1 := decide_eq_true c80
                 clear c80
                 obtain ⟨y683, hy683⟩ : ∃ y_ : List (S43), y_ = (x9_2.take (a1 : Int).toNat) := ⟨_, rfl⟩
                 replace H : ((tree_Tree_Same.f kj40 y679 y683).bind fun t687 => (if t687 = true then (if 0 ≤ (wrap64 (a1 + 1)) then (if (wrap64 (a1 + 1)) ≤ (t664.length : Int) then (if (wrap64 (a1 + 1)) ≤ (x9_2.length : Int) then ((tree_Tree_Same.f kj40 (t664.drop ((wrap64 (a1 + 1)) : Int).toNat) (x9_2.drop ((wrap64 (a1 + 1)) : Int).toNat)).bind fun t696 => (some t696)) else (none)) else (none)) else (none)) else (some false))) = some r := by first | (rw [hy683]; with_reducible exact H) | (have H2_ := (Option.bind_some _ _).symm.trans H; rw [hy683]; with_reducible exact H2_) | (have H2_ := (Option.bind_some _ _).symm.trans H; with_reducible exact H2_) | with_reducible exact H | (rw [hy683]; exact H) | exact H
                 have Ny683 := Aside0.mk hy683
                 clear hy683
                 replace H := Option.bind_eq_some_iff.mp H
                 obtain ⟨t687, A810, H⟩ := H
                 (try dsimp -simprocs only at H)
                 have A81 := Aside0.mk A810
                 clear A810
                 by_cases c82 : t687 = true
                 ·subst c82
                  rw [if_pos rfl] at H
                  obtain ⟨ji83, hji83⟩ : ∃ j_ : Int, (wrap64 (a1 + 1)) = j_ := ⟨_, rfl⟩
                  replace H : (if 0 ≤ (ji83) then (if (ji83) ≤ (t664.length : Int) then (if (ji83) ≤ (x9_2.length : Int) then ((tree_Tree_Same.f kj40 (t664.drop ((ji83) : Int).toNat) (x9_2.drop ((ji83) : Int).toNat)).bind fun t696 => (some t696)) else (none)) else (none)) else (none)) = some r := by first | (rw [hji83] at H; exact H) | (simp only [hji83] at H ⊢; exact H)
                  (try rw [hji83] at A81)
                  have hji83w : (IntKind.i64.wrap (a1 + 1)) = ji83 := (i64_w _).trans hji83
                  by_cases c84 : 0 ≤ (ji83)
                  ·rw [if_pos c84] at H
                   have c84b0 := eq_true c84
                   have c84b1 := decide_eq_true c84
                   clear c84
                   by_cases c85 : (ji83) ≤ (t664.length : Int)
                   ·rw [if_pos c85] at H
                    have c85b0 := eq_true c85
                    have c85b1 := decide_eq_true c85
                    clear c85
                    obtain ⟨y688, hy688⟩ : ∃ y_ : List (S43), y_ = (t664.drop ((ji83) : Int).toNat) := ⟨_, rfl⟩
                    replace H : (if (ji83) ≤ (x9_2.length : Int) then ((tree_Tree_Same.f kj40 y688 (x9_2.drop ((ji83) : Int).toNat)).bind fun t696 => (some t696)) else (none)) = some r := by first | (rw [hy688]; with_reducible exact H) | (have H2_ := (Option.bind_some _ _).symm.trans H; rw [hy688]; with_reducible exact H2_) | (have H2_ := (Option.bind_some _ _).symm.trans H; with_reducible exact H2_) | with_reducible exact H | (rw [hy688]; exact H) | exact H
                    have Ny688 := Aside0.mk hy688
                    clear hy688
                    have c86b0 := eq_true (qD : 0 ≤ (ji83))
                    by_cases c87 : (ji83) ≤ (x9_2.length : Int)
                    ·rw [if_pos c87] at H
                     have c87b0 := eq_true c87
                     have c87b1 := decide_eq_true c87
                     clear c87
                     obtain ⟨y692, hy692⟩ : ∃ y_ : List (S43), y_ = (x9_2.drop ((ji83) : Int).toNat) := ⟨_, rfl⟩
                     replace H : ((tree_Tree_Same.f kj40 y688 y692).bind fun t696 => (some t696)) = some r := by first | (rw [hy692]; with_reducible exact H) | (have H2_ := (Option.bind_some _ _).symm.trans H; rw [hy692]; with_reducible exact H2_) | (have H2_ := (Option.bind_some _ _).symm.trans H; with_reducible exact H2_) | with_reducible exact H | (rw [hy692]; exact H) | exact H
                     have Ny692 := Aside0.mk hy692
                     clear hy692
                     replace H := Option.bind_eq_some_iff.mp H
                     obtain ⟨t696, A880, H⟩ := H
                     (try dsimp -simprocs only at H)
                     have A88 := Aside0.mk A880
                     clear A880
                     obtain rfl := Option.some.inj H
                     try go_wp2
                     replace BK647 := Aside0.mk (blk_drew BK647.out)
                     replace BK675 := Aside0.mk (blk_drew BK675.out)
                     replace HO_9 := Aside0.mk (Kd.S_drew HO_9.out)
                     replace HO_12 := Aside0.mk (Kd.S_drew HO_12.out)
                     replace HB := Aside0.mk (below_drew1 HB.out)
                     have q90 : (a1 : Int) ≤ ((t664.length : Int) : Int) := qD
                     obtain ⟨i090, hi090, _, hsz90, _⟩ := info_parts info43
                     have hroom90 : t664.length ≤ co45 := (Kd.S_reads' HO_12.out).2.1
                     have hC90 : Kd.C k43 _ Ao45 t664.length t664 := (Kd.S_reads' HO_12.out).2.2
                     have hcut90 := cut_to (P := Tryd.prog) 40 43 .i64 Tryd.underlying40 hi090 Ao45 t664.length co45 a1 (qD) q90 hroom90
                     have hr90 := Kd.C_take (m := (a1 : Int).toNat) hC90 (by omega)
                     have hy90 : y679.length = (a1 : Int).toNat := (by rw [Ny679.out, List.length_take]; omega)
                     rw [← Ny679.out] at hr90
                     rw [← hy90] at hcut90
                     have HR682 := Aside0.mk hr90
                     have HC682 := Aside0.mk (show y679.length ≤ co45 from by omega)
                     clear hr90 hC90 hroom90 hi090 hsz90
                     have KY90 := Aside0.mk hy90
                     clear hy90
                     have KL90 := Aside0.mk (show (a1 : Int).toNat ≤ t664.length from by omega)
                     replace q90 := eq_true q90
                     have q91 : (a1 : Int) ≤ ((x9_2.length : Int) : Int) := qD
                     obtain ⟨i091, hi091, _, hsz91, _⟩ := info_parts info43
                     have hroom91 : x9_2.length ≤ co43 := (Kd.S_reads' HO_9.out).2.1
                     have hC91 : Kd.C k43 _ Ao43 x9_2.length x9_2 := (Kd.S_reads' HO_9.out).2.2
                     have hcut91 := cut_to (P := Tryd.prog) 40 43 .i64 Tryd.underlying40 hi091 Ao43 x9_2.length co43 a1 (qD) q91 hroom91
                     have hr91 := Kd.C_take (m := (a1 : Int).toNat) hC91 (by omega)
                     have hy91 : y683.length = (a1 : Int).toNat := (by rw [Ny683.out, List.length_take]; omega)
                     rw [← Ny683.out] at hr91
                     rw [← hy91] at hcut91
                     have HR686 := Aside0.mk hr91
                     have HC686 := Aside0.mk (show y683.length ≤ co43 from by omega)
                     clear hr91 hC91 hroom91 hi091 hsz91
                     have KY91 := Aside0.mk hy91
                     clear hy91
                     have KL91 := Aside0.mk (show (a1 : Int).toNat ≤ x9_2.length from by omega)
                     replace q91 := eq_true q91
                     refine start_ (n := 26) (S := fun w' => True) (ds := []) _ (by kernel_rfl) rfl (fls 26) trivial (fun hHeld => ?_); refine with_tabW whirligiglaw22_TreeEnds.tab23 whirligiglaw22_TreeEnds.bits23 (fun HT_ HW_ => ?_)
                     generalize wc.drew = w89 at HO_9 HO_12 BK647 BK675 HB HR682 HR686 hHeld ⊢
                     refine pu 0 121 ?_; refine pu 1 122 ?_
                     refine pu 2 123 ?_; refine pu 3 124 ?_
                     refine pu 4 125 ?_; refine pu 5 126 ?_
                     refine pu 6 127 ?_; refine pu 7 128 ?_
                     refine pu 8 129 ?_; refine pu 9 130 ?_
                     refine pu 10 131 ?_; refine pu 11 132 ?_
                     refine onx 12 133 (fun K hK => ?_)
                     refine goes_ Tryd.func49 (by kernel_rfl) rfl #[.slice Ao45 y679.length co45, .slice Ao43 y683.length co43] (by rfl) rfl rfl (by (try simp only [List.map_toArray, List.map_cons, List.map_nil]); first | done | rfl | (simp only [List.length_drop, List.length_take]; rfl)) ?_
                     with_reducible refine (tree_Tree_Same.calls kj40 _ _ y679 _ _ y683 true _ ?side1 ?side2 ?side3 ?side4 A81.out).mono ?_
                     (case side1 => repeat (first | exact (by repeat (first | (with_reducible exact HR682.out) | (with_reducible refine Kd.C_alloc ?_ _) | (with_reducible refine Kd.C_drewN ?_ _) | (with_reducible refine Kd.C_drew ?_) | exact HR682.out)) | (with_reducible refine Kd.C_alloc ?_ _) | (with_reducible refine Kd.C_drewN ?_ _) | (with_reducible refine Kd.C_drew ?_)))
                     (case side2 => exact HC682.out)
                     (case side3 => repeat (first | exact (by repeat (first | (with_reducible exact HR686.out) | (with_reducible refine Kd.C_alloc ?_ _) | (with_reducible refine Kd.C_drewN ?_ _) | (with_reducible refine Kd.C_drew ?_) | exact HR686.out)) | (with_reducible refine Kd.C_alloc ?_ _) | (with_reducible refine Kd.C_drewN ?_ _) | (with_reducible refine Kd.C_drew ?_)))
                     (case side4 => exact HC686.out)
                     rintro e w92 ⟨rfl, hb⟩
                     refine ⟨_, rfl, ?_⟩
                     replace BK647 := kb gb647 hb
                     replace BK675 := kb gb675 hb
                     replace HO_9 := Aside0.mk (Kd.S_below (by (with_reducible repeat (first | apply Kd.S_alloc | apply Kd.S_drewN | apply Kd.S_drew)); exact HO_9.out) hb)
                     replace HO_12 := Aside0.mk (Kd.S_below (by (with_reducible repeat (first | apply Kd.S_alloc | apply Kd.S_drewN | apply Kd.S_drew)); exact HO_12.out) hb)
                     replace HR682 := Aside0.mk (Kd.C_below (by repeat (first | (with_reducible exact HR682.out) | (with_reducible refine Kd.C_alloc ?_ _) | (with_reducible refine Kd.C_drewN ?_ _) | (with_reducible refine Kd.C_drew ?_) | exact HR682.out)) hb)
                     replace HR686 := Aside0.mk (Kd.C_below (by repeat (first | (with_reducible exact HR686.out) | (with_reducible refine Kd.C_alloc ?_ _) | (with_reducible refine Kd.C_drewN ?_ _) | (with_reducible refine Kd.C_drew ?_) | exact HR686.out)) hb)
                     replace HB := bst hb
                     (try clear hb)
                     (try clear hb2)
                     (try clear hk)
                     (try clear hi)
                     have q93 : ((ji83) : Int) ≤ ((t664.length : Int) : Int) := qD
                     obtain ⟨i093, hi093, _, hsz93, _⟩ := info_parts info43
                     have hroom93 : t664.length ≤ co45 := (Kd.S_reads' HO_12.out).2.1
                     have hC93 : Kd.C k43 _ Ao45 t664.length t664 := (Kd.S_reads' HO_12.out).2.2
                     have q093 : (0 : Int) ≤ ((ji83) : Int) := qD
                     have hcut93 := cut_from (P := Tryd.prog) 40 43 .i64 Tryd.underlying40 hi093 4 hsz93 Ao45 t664.length co45 (ji83) q093 q93
                     have hr93 := Kd.C_drop (m := ((ji83) : Int).toNat) (c := co45) hC93 (by omega) hroom93
                     obtain ⟨A93, hA93⟩ : ∃ A1, A1 = (if co45 = ((ji83) : Int).toNat then Ao45 else (Ao45 : Option Addr).map (·.add (((ji83) : Int).toNat * 4))) := ⟨_, rfl⟩
                     obtain ⟨c93, hc93⟩ : ∃ c1, c1 = co45 - ((ji83) : Int).toNat := ⟨_, rfl⟩
                     have hy93 : y688.length = t664.length - ((ji83) : Int).toNat := (by rw [Ny688.out, List.length_drop] <;> omega)
                     rw [show (t664).drop ((ji83) : Int).toNat = y688 from Ny688.out.symm] at hr93
                     replace hr93 : Kd.C k43 _ A93 y688.length y688 := (by rw [hA93]; exact hr93)
                     rw [← hy93, ← hA93, ← hc93] at hcut93
                     have HR691 := Aside0.mk hr93
                     have HC691 := Aside0.mk (show y688.length ≤ c93 from by rw [hy93, hc93]; exact Nat.sub_le_sub_right hroom93 _)
                     clear hr93 hC93 hroom93 hi093 hsz93 hc93
                     have KY93 := Aside0.mk hy93
                     have KA93 := Aside0.mk hA93
                     clear hy93 hA93
                     have KL93 := Aside0.mk (show ((ji83) : Int).toNat ≤ t664.length from by omega)
                     replace q93 := eq_true q93
                     have q94 : ((ji83) : Int) ≤ ((x9_2.length : Int) : Int) := qD
                     obtain ⟨i094, hi094, _, hsz94, _⟩ := info_parts info43
                     have hroom94 : x9_2.length ≤ co43 := (Kd.S_reads' HO_9.out).2.1
                     have hC94 : Kd.C k43 _ Ao43 x9_2.length x9_2 := (Kd.S_reads' HO_9.out).2.2
                     have q094 : (0 : Int) ≤ ((ji83) : Int) := qD
                     have hcut94 := cut_from (P := Tryd.prog) 40 43 .i64 Tryd.underlying40 hi094 4 hsz94 Ao43 x9_2.length co43 (ji83) q094 q94
                     have hr94 := Kd.C_drop (m := ((ji83) : Int).toNat) (c := co43) hC94 (by omega) hroom94
                     obtain ⟨A94, hA94⟩ : ∃ A1, A1 = (if co43 = ((ji83) : Int).toNat then Ao43 else (Ao43 : Option Addr).map (·.add (((ji83) : Int).toNat * 4))) := ⟨_, rfl⟩
                     obtain ⟨c94, hc94⟩ : ∃ c1, c1 = co43 - ((ji83) : Int).toNat := ⟨_, rfl⟩
                     have hy94 : y692.length = x9_2.length - ((ji83) : Int).toNat := (by rw [Ny692.out, List.length_drop] <;> omega)
                     rw [show (x9_2).drop ((ji83) : Int).toNat = y692 from Ny692.out.symm] at hr94
                     replace hr94 : Kd.C k43 _ A94 y692.length y692 := (by rw [hA94]; exact hr94)
                     rw [← hy94, ← hA94, ← hc94] at hcut94
                     have HR695 := Aside0.mk hr94
                     have HC695 := Aside0.mk (show y692.length ≤ c94 from by rw [hy94, hc94]; exact Nat.sub_le_sub_right hroom94 _)
                     clear hr94 hC94 hroom94 hi094 hsz94 hc94
                     have KY94 := Aside0.mk hy94
                     have KA94 := Aside0.mk hA94
                     clear hy94 hA94
                     have KL94 := Aside0.mk (show ((ji83) : Int).toNat ≤ x9_2.length from by omega)
                     replace q94 := eq_true q94
                     refine hK.out _ _ trivial (fun hHeld => ?_)
                     clear hK K
                     refine nm 133 ?_
                     refine pu 13 134 ?_; refine pu 14 135 ?_
                     refine pu 15 136 ?_; refine pu 16 137 ?_
                     refine pu 17 138 ?_; refine pu 18 139 ?_
                     refine pu 19 140 ?_; refine pu 20 141 ?_
                     refine pu 21 142 ?_; refine pu 22 143 ?_
                     refine onx 23 144 (fun K hK => ?_)
                     refine goes_ Tryd.func49 (by kernel_rfl) rfl #[.slice A93 y688.length c93, .slice A94 y692.length c94] (by rfl) rfl rfl (by (try simp only [List.map_toArray, List.map_cons, List.map_nil]); first | done | rfl | (simp only [List.length_drop, List.length_take]; rfl)) ?_
                     with_reducible refine (tree_Tree_Same.calls kj40 _ _ y688 _ _ y692 t696 _ ?side1 ?side2 ?side3 ?side4 A88.out).mono ?_
                     (case side1 => repeat (first | exact (by repeat (first | (with_reducible exact HR691.out) | (with_reducible refine Kd.C_alloc ?_ _) | (with_reducible refine Kd.C_drewN ?_ _) | (with_reducible refine Kd.C_drew ?_) | exact HR691.out)) | (with_reducible refine Kd.C_alloc ?_ _) | (with_reducible refine Kd.C_drewN ?_ _) | (with_reducible refine Kd.C_drew ?_)))
                     (case side2 => exact HC691.out)
                     (case side3 => repeat (first | exact (by repeat (first | (with_reducible exact HR695.out) | (with_reducible refine Kd.C_alloc ?_ _) | (with_reducible refine Kd.C_drewN ?_ _) | (with_reducible refine Kd.C_drew ?_) | exact HR695.out)) | (with_reducible refine Kd.C_alloc ?_ _) | (with_reducible refine Kd.C_drewN ?_ _) | (with_reducible refine Kd.C_drew ?_)))
                     (case side4 => exact HC695.out)
                     rintro e w95 ⟨rfl, hb⟩
                     refine ⟨_, rfl, ?_⟩
                     replace BK647 := kb gb647 hb
                     replace BK675 := kb gb675 hb
                     replace HO_9 := Aside0.mk (Kd.S_below (by (with_reducible repeat (first | apply Kd.S_alloc | apply Kd.S_drewN | apply Kd.S_drew)); exact HO_9.out) hb)
                     replace HO_12 := Aside0.mk (Kd.S_below (by (with_reducible repeat (first | apply Kd.S_alloc | apply Kd.S_drewN | apply Kd.S_drew)); exact HO_12.out) hb)
                     replace HR682 := Aside0.mk (Kd.C_below (by repeat (first | (with_reducible exact HR682.out) | (with_reducible refine Kd.C_alloc ?_ _) | (with_reducible refine Kd.C_drewN ?_ _) | (with_reducible refine Kd.C_drew ?_) | exact HR682.out)) hb)
                     replace HR686 := Aside0.mk (Kd.C_below (by repeat (first | (with_reducible exact HR686.out) | (with_reducible refine Kd.C_alloc ?_ _) | (with_reducible refine Kd.C_drewN ?_ _) | (with_reducible refine Kd.C_drew ?_) | exact HR686.out)) hb)
                     replace HR691 := Aside0.mk (Kd.C_below (by repeat (first | (with_reducible exact HR691.out) | (with_reducible refine Kd.C_alloc ?_ _) | (with_reducible refine Kd.C_drewN ?_ _) | (with_reducible refine Kd.C_drew ?_) | exact HR691.out)) hb)
                     replace HR695 := Aside0.mk (Kd.C_below (by repeat (first | (with_reducible exact HR695.out) | (with_reducible refine Kd.C_alloc ?_ _) | (with_reducible refine Kd.C_drewN ?_ _) | (with_reducible refine Kd.C_drew ?_) | exact HR695.out)) hb)
                     replace HB := bst hb
                     (try clear hb)
                     (try clear hb2)
                     (try clear hk)
                     (try clear hi)
                     refine hK.out _ _ trivial (fun hHeld => ?_)
                     clear hK K
                     refine nm 144 ?_
                     refine pu 24 145 ?_; refine pu 25 8 ?_
                     refine done_ (done_of HT_.out (by kernel_rfl)) ?_
                     try go_wp2
                     go_ret
                     exact ⟨by first | rfl | (simp [errW_none, errW_some] <;> rfl) | (simp only [← hji83]; first | rfl | (simp [errW_none, errW_some] <;> rfl)) | (simp [*, errW_none, errW_some] <;> rfl), qB⟩
                    ·rw [if_neg c87] at H
                     exact absurd H (by simp)
                   ·rw [if_neg c85] at H
                    exact absurd H (by simp)
                  ·rw [if_neg c84] at H
                   exact absurd H (by simp)
                 ·replace c82 := Bool.eq_false_iff.mpr c82
                  subst c82
                  rw [if_neg (show ¬ (false = true) by decide)] at H
                  obtain rfl := Option.some.inj H
                  try go_wp2
                  replace BK647 := Aside0.mk (blk_drew BK647.out)
                  replace BK675 := Aside0.mk (blk_drew BK675.out)
                  replace HO_9 := Aside0.mk (Kd.S_drew HO_9.out)
                  replace HO_12 := Aside0.mk (Kd.S_drew HO_12.out)
                  replace HB := Aside0.mk (below_drew1 HB.out)
                  have q97 : (a1 : Int) ≤ ((t664.length : Int) : Int) := qD
                  obtain ⟨i097, hi097, _, hsz97, _⟩ := info_parts info43
                  have hroom97 : t664.length ≤ co45 := (Kd.S_reads' HO_12.out).2.1
                  have hC97 : Kd.C k43 _ Ao45 t664.length t664 := (Kd.S_reads' HO_12.out).2.2
                  have hcut97 := cut_to (P := Tryd.prog) 40 43 .i64 Tryd.underlying40 hi097 Ao45 t664.length co45 a1 (qD) q97 hroom97
                  have hr97 := Kd.C_take (m := (a1 : Int).toNat) hC97 (by omega)
                  have hy97 : y679.length = (a1 : Int).toNat := (by rw [Ny679.out, List.length_take]; omega)
                  rw [← Ny679.out] at hr97
                  rw [← hy97] at hcut97
                  have HR682 := Aside0.mk hr97
                  have HC682 := Aside0.mk (show y679.length ≤ co45 from by omega)
                  clear hr97 hC97 hroom97 hi097 hsz97
                  have KY97 := Aside0.mk hy97
                  clear hy97
                  have KL97 := Aside0.mk (show (a1 : Int).toNat ≤ t664.length from by omega)
                  replace q97 := eq_true q97
                  have q98 : (a1 : Int) ≤ ((x9_2.length : Int) : Int) := qD
                  obtain ⟨i098, hi098, _, hsz98, _⟩ := info_parts info43
                  have hroom98 : x9_2.length ≤ co43 := (Kd.S_reads' HO_9.out).2.1
                  have hC98 : Kd.C k43 _ Ao43 x9_2.length x9_2 := (Kd.S_reads' HO_9.out).2.2
                  have hcut98 := cut_to (P := Tryd.prog) 40 43 .i64 Tryd.underlying40 hi098 Ao43 x9_2.length co43 a1 (qD) q98 hroom98
                  have hr98 := Kd.C_take (m := (a1 : Int).toNat) hC98 (by omega)
                  have hy98 : y683.length = (a1 : Int).toNat := (by rw [Ny683.out, List.length_take]; omega)
                  rw [← Ny683.out] at hr98
                  rw [← hy98] at hcut98
                  have HR686 := Aside0.mk hr98
                  have HC686 := Aside0.mk (show y683.length ≤ co43 from by omega)
                  clear hr98 hC98 hroom98 hi098 hsz98
                  have KY98 := Aside0.mk hy98
                  clear hy98
                  have KL98 := Aside0.mk (show (a1 : Int).toNat ≤ x9_2.length from by omega)
                  replace q98 := eq_true q98
                  refine start_ (n := 26) (S := fun w' => True) (ds := []) _ (by kernel_rfl) rfl (fls 26) trivial (fun hHeld => ?_); refine with_tabW whirligiglaw22_TreeEnds.tab23 whirligiglaw22_TreeEnds.bits23 (fun HT_ HW_ => ?_)
                  generalize wc.drew = w96 at HO_9 HO_12 BK647 BK675 HB HR682 HR686 hHeld ⊢
                  refine pu 0 121 ?_; refine pu 1 122 ?_
                  refine pu 2 123 ?_; refine pu 3 124 ?_
                  refine pu 4 125 ?_; refine pu 5 126 ?_
                  refine pu 6 127 ?_; refine pu 7 128 ?_
                  refine pu 8 129 ?_; refine pu 9 130 ?_
                  refine pu 10 131 ?_; refine pu 11 132 ?_
                  refine onx 12 133 (fun K hK => ?_)
                  refine goes_ Tryd.func49 (by kernel_rfl) rfl #[.slice Ao45 y679.length co45, .slice Ao43 y683.length co43] (by rfl) rfl rfl (by (try simp only [List.map_toArray, List.map_cons, List.map_nil]); first | done | rfl | (simp only [List.length_drop, List.length_take]; rfl)) ?_
                  with_reducible refine (tree_Tree_Same.calls kj40 _ _ y679 _ _ y683 false _ ?side1 ?side2 ?side3 ?side4 A81.out).mono ?_
                  (case side1 => repeat (first | exact (by repeat (first | (with_reducible exact HR682.out) | (with_reducible refine Kd.C_alloc ?_ _) | (with_reducible refine Kd.C_drewN ?_ _) | (with_reducible refine Kd.C_drew ?_) | exact HR682.out)) | (with_reducible refine Kd.C_alloc ?_ _) | (with_reducible refine Kd.C_drewN ?_ _) | (with_reducible refine Kd.C_drew ?_)))
                  (case side2 => exact HC682.out)
                  (case side3 => repeat (first | exact (by repeat (first | (with_reducible exact HR686.out) | (with_reducible refine Kd.C_alloc ?_ _) | (with_reducible refine Kd.C_drewN ?_ _) | (with_reducible refine Kd.C_drew ?_) | exact HR686.out)) | (with_reducible refine Kd.C_alloc ?_ _) | (with_reducible refine Kd.C_drewN ?_ _) | (with_reducible refine Kd.C_drew ?_)))
                  (case side4 => exact HC686.out)
                  rintro e w99 ⟨rfl, hb⟩
                  refine ⟨_, rfl, ?_⟩
                  replace BK647 := kb gb647 hb
                  replace BK675 := kb gb675 hb
                  replace HO_9 := Aside0.mk (Kd.S_below (by (with_reducible repeat (first | apply Kd.S_alloc | apply Kd.S_drewN | apply Kd.S_drew)); exact HO_9.out) hb)
                  replace HO_12 := Aside0.mk (Kd.S_below (by (with_reducible repeat (first | apply Kd.S_alloc | apply Kd.S_drewN | apply Kd.S_drew)); exact HO_12.out) hb)
                  replace HR682 := Aside0.mk (Kd.C_below (by repeat (first | (with_reducible exact HR682.out) | (with_reducible refine Kd.C_alloc ?_ _) | (with_reducible refine Kd.C_drewN ?_ _) | (with_reducible refine Kd.C_drew ?_) | exact HR682.out)) hb)
                  replace HR686 := Aside0.mk (Kd.C_below (by repeat (first | (with_reducible exact HR686.out) | (with_reducible refine Kd.C_alloc ?_ _) | (with_reducible refine Kd.C_drewN ?_ _) | (with_reducible refine Kd.C_drew ?_) | exact HR686.out)) hb)
                  replace HB := bst hb
                  (try clear hb)
                  (try clear hb2)
                  (try clear hk)
                  (try clear hi)
                  refine hK.out _ _ trivial (fun hHeld => ?_)
                  clear hK K
                  refine nm 133 ?_
                  refine pu 13 134 ?_; refine pu 14 135 ?_
                  refine po 15 136 ?_; refine po 16 137 ?_
                  refine po 17 138 ?_; refine po 18 139 ?_
                  refine po 19 140 ?_; refine po 20 141 ?_
                  refine po 21 142 ?_; refine po 22 143 ?_
                  refine po 23 144 ?_; refine pu 24 145 ?_; refine pu 25 8 ?_
                  refine done_ (done_of HT_.out (by kernel_rfl)) ?_
                  try go_wp2
                  go_ret
                  exact ⟨qR, qB⟩
                ·rw [if_neg c80] at H
                 exact absurd H (by simp)
               ·rw [if_neg c78] at H
                exact absurd H (by simp)
              ·rw [if_neg c77] at H
               exact absurd H (by simp)
             ·rw [if_neg c76] at H
              have c76b0 := beq_eq_false_iff_ne.mpr c76
              have c76b1 := bne_iff_ne.mpr c76
              have c76b2 : (t664.length == x9_2.length) = false := by first | simpa using c76 | (simp at c76 ⊢; omega)
              obtain rfl := Option.some.inj H
              try go_wp2
              replace BK647 := Aside0.mk (blk_drew BK647.out)
              replace BK675 := Aside0.mk (blk_drew BK675.out)
              replace HO_9 := Aside0.mk (Kd.S_drew HO_9.out)
              replace HO_12 := Aside0.mk (Kd.S_drew HO_12.out)
              replace HB := Aside0.mk (below_drew1 HB.out)
              refine start_ (n := 26) (S := fun w' => True) (ds := []) _ (by kernel_rfl) rfl (fls 26) trivial (fun hHeld => ?_); refine with_tabW whirligiglaw22_TreeEnds.tab23 whirligiglaw22_TreeEnds.bits23 (fun HT_ HW_ => ?_)
              generalize wc.drew = w100 at HO_9 HO_12 BK647 BK675 HB hHeld ⊢
              refine pu 0 121 ?_; refine pu 1 122 ?_
              refine pu 2 123 ?_; refine pu 3 124 ?_
              refine pu 4 125 ?_; refine pu 5 126 ?_
              refine po 6 127 ?_; refine po 7 128 ?_
              refine po 8 129 ?_; refine po 9 130 ?_
              refine po 10 131 ?_; refine po 11 132 ?_
              refine po 12 133 ?_; refine pu 13 134 ?_
              refine pu 14 135 ?_; refine po 15 136 ?_
              refine po 16 137 ?_; refine po 17 138 ?_
              refine po 18 139 ?_; refine po 19 140 ?_
              refine po 20 141 ?_; refine po 21 142 ?_
              refine po 22 143 ?_; refine po 23 144 ?_
              refine pu 24 145 ?_; refine pu 25 8 ?_
              refine done_ (done_of HT_.out (by kernel_rfl)) ?_
              try go_wp2
              go_ret
              exact ⟨qR, qB⟩
            ·rw [if_neg c75] at H
             have c75b0 := beq_eq_false_iff_ne.mpr c75
             have c75b1 := bne_iff_ne.mpr c75
             by_cases c101 : (t664.length : Int) = (wrap64 ((x9_2.length : Int) + 1))
             ·rw [if_pos c101] at H
              have c101b0 := beq_iff_eq.mpr c101
              have c101b1 := bne_eq_false_iff_eq.mpr c101
              clear c101
              by_cases c102 : 0 ≤ (x9_2.length : Int)
              ·rw [if_pos c102] at H
               have c102b0 := eq_true c102
               have c102b1 := decide_eq_true c102
               clear c102
               by_cases c103 : (x9_2.length : Int) ≤ (t664.length : Int)
               ·rw [if_pos c103] at H
                have c103b0 := eq_true c103
                have c103b1 := decide_eq_true c103
                clear c103
                obtain ⟨y697, hy697⟩ : ∃ y_ : List (S43), y_ = (t664.take ((x9_2.length : Int) : Int).toNat) := ⟨_, rfl⟩
                replace H : ((tree_Tree_Same.f kj40 y697 x9_2).bind fun t701 => (if t701 = true then (if t667 = (x9_2.length : Int) then (if 0 ≤ t667 then (if t667 < (t664.length : Int) then (some (((rd_T43 t664 t667).f0) == a1)) else (none)) else (none)) else (some false)) else (some false))) = some r := by first | (rw [hy697]; with_reducible exact H) | (have H2_ := (Option.bind_some _ _).symm.trans H; rw [hy697]; with_reducible exact H2_) | (have H2_ := (Option.bind_some _ _).symm.trans H; with_reducible exact H2_) | with_reducible exact H | (rw [hy697]; exact H) | exact H
                have Ny697 := Aside0.mk hy697
                clear hy697
                replace H := Option.bind_eq_some_iff.mp H
                obtain ⟨t701, A1040, H⟩ := H
                (try dsimp -simprocs only at H)
                have A104 := Aside0.mk A1040
                clear A1040
                by_cases c105 : t701 = true
                ·subst c105
                 rw [if_pos rfl] at H
                 by_cases c106 : t667 = (x9_2.length : Int)
                 ·rw [if_pos c106] at H
                  have c106b0 := beq_iff_eq.mpr c106
                  have c106b1 := bne_eq_false_iff_eq.mpr c106
                  clear c106
                  replace H := iD H
                  rcases H with ⟨c107b0, H⟩ | ⟨c107b0, H⟩
                  ·by_cases c108 : t667 < (t664.length : Int)
                   ·rw [if_pos c108] at H
                    have c108b0 := decide_eq_true c108
                    clear c108
                    obtain rfl := Option.some.inj H
                    have q109 : ((x9_2.length : Int) : Int) ≤ ((t664.length : Int) : Int) := qD
                    obtain ⟨i0109, hi0109, _, hsz109, _⟩ := info_parts info43
                    have hroom109 : t664.length ≤ co45 := (Kd.S_reads' HO_12.out).2.1
                    have hC109 : Kd.C k43 _ Ao45 t664.length t664 := (Kd.S_reads' HO_12.out).2.2
                    have hcut109 := cut_to (P := Tryd.prog) 40 43 .i64 Tryd.underlying40 hi0109 Ao45 t664.length co45 (x9_2.length : Int) (qD) q109 hroom109
                    have hr109 := Kd.C_take (m := ((x9_2.length : Int) : Int).toNat) hC109 (by omega)
                    have hy109 : y697.length = ((x9_2.length : Int) : Int).toNat := (by rw [Ny697.out, List.length_take]; omega)
                    rw [← Ny697.out] at hr109
                    rw [← hy109] at hcut109
                    have HR700 := Aside0.mk hr109
                    have HC700 := Aside0.mk (show y697.length ≤ co45 from by omega)
                    clear hr109 hC109 hroom109 hi0109 hsz109
                    have KY109 := Aside0.mk hy109
                    clear hy109
                    have KL109 := Aside0.mk (show ((x9_2.length : Int) : Int).toNat ≤ t664.length from by omega)
                    replace q109 := eq_true q109
                    go_wp2_with (first | (go_at_call 49; (with_reducible refine (tree_Tree_Same.calls kj40 _ _ y697 _ _ x9_2 true _ ?side1 ?side2 ?side3 ?side4 A104.out).mono ?_); (case side1 => repeat (first | exact (by repeat (first | (with_reducible exact HR700.out) | (with_reducible refine Kd.C_alloc ?_ _) | (with_reducible refine Kd.C_drewN ?_ _) | (with_reducible refine Kd.C_drew ?_) | exact HR700.out)) | (with_reducible refine Kd.C_alloc ?_ _) | (with_reducible refine Kd.C_drewN ?_ _) | (with_reducible refine Kd.C_drew ?_))); (case side2 => exact HC700.out); (case side3 => repeat (first | exact (Kd.S_reads' HO_9.out).2.2 | (with_reducible refine Kd.C_alloc ?_ _) | (with_reducible refine Kd.C_drewN ?_ _) | (with_reducible refine Kd.C_drew ?_))); (case side4 => exact (Kd.S_reads' HO_9.out).2.1); rintro e w110 ⟨rfl, hb⟩; have n0_ := Aside0.mk (Kd.S_below (by (with_reducible repeat (first | apply Kd.S_alloc | apply Kd.S_drewN | apply Kd.S_drew)); exact HO_9.out) hb); have n1_ := Aside0.mk (Kd.S_below (by (with_reducible repeat (first | apply Kd.S_alloc | apply Kd.S_drewN | apply Kd.S_drew)); exact HO_12.out) hb); have n2_ := kb gb647 hb; have n3_ := kb gb675 hb; have n4_ := Aside0.mk (Kd.C_below (by repeat (first | (with_reducible exact HR700.out) | (with_reducible refine Kd.C_alloc ?_ _) | (with_reducible refine Kd.C_drewN ?_ _) | (with_reducible refine Kd.C_drew ?_) | exact HR700.out)) hb); have n5_ := bst hb; clear HO_9; clear HO_12; clear BK647; clear BK675; clear HR700; clear HB; have HO_9 := n0_; have HO_12 := n1_; have BK647 := n2_; have BK675 := n3_; have HR700 := n4_; have HB := n5_; clear n0_ n1_ n2_ n3_ n4_ n5_; (try clear hb); have p702 : 0 ≤ (t667 : Int) := qD; have q702 : t667 < (t664.length : Int) := qD; obtain ⟨ad702, A702_3, c702_3, e702, hx702_0, hx702_1, hx702_2, hx702_3, hl702_3, hi702_3⟩ := at_T43 (Kd.S_reads' HO_12.out).2.2 t667 p702 q702; cases e702; obtain ⟨ce702, hce702, hMe702, hcc702⟩ := Kd.S_get HO_12.out z43 t667 p702 (by first | exact q702 | exact qD | (have e_ := (Kd.S_reads' HO_12.out).1; omega)); obtain ⟨ve702_3, rfl, ge702_3⟩ := k43_openM hMe702; have hv702_3 := hcc702 3 _ rfl; rw [add_field _ _ 3 (by omega)] at hv702_3; replace hv702_3 := Option.some.inj (hv702_3.symm.trans hx702_3); rw [hv702_3] at ge702_3; have HL702_3 := Aside0.mk (show Kd.R k45 45 _ _ _ _ ((rd_T43 t664 t667).f3) from ge702_3); clear hv702_3 ge702_3; clear hcc702 hce702; have HR702_3 := Aside0.mk hi702_3; have HC702_3 := Aside0.mk hl702_3; clear hi702_3 hl702_3; replace p702 := eq_true p702; replace q702 := eq_true q702))
                    go_ret
                    exact ⟨qR, qB⟩
                   ·rw [if_neg c108] at H
                    exact absurd H (by simp)
                  ·exact absurd H (by simp)
                 ·rw [if_neg c106] at H
                  have c106b0 := beq_eq_false_iff_ne.mpr c106
                  have c106b1 := bne_iff_ne.mpr c106
                  obtain rfl := Option.some.inj H
                  have q111 : ((x9_2.length : Int) : Int) ≤ ((t664.length : Int) : Int) := qD
                  obtain ⟨i0111, hi0111, _, hsz111, _⟩ := info_parts info43
                  have hroom111 : t664.length ≤ co45 := (Kd.S_reads' HO_12.out).2.1
                  have hC111 : Kd.C k43 _ Ao45 t664.length t664 := (Kd.S_reads' HO_12.out).2.2
                  have hcut111 := cut_to (P := Tryd.prog) 40 43 .i64 Tryd.underlying40 hi0111 Ao45 t664.length co45 (x9_2.length : Int) (qD) q111 hroom111
                  have hr111 := Kd.C_take (m := ((x9_2.length : Int) : Int).toNat) hC111 (by omega)
                  have hy111 : y697.length = ((x9_2.length : Int) : Int).toNat := (by rw [Ny697.out, List.length_take]; omega)
                  rw [← Ny697.out] at hr111
                  rw [← hy111] at hcut111
                  have HR700 := Aside0.mk hr111
                  have HC700 := Aside0.mk (show y697.length ≤ co45 from by omega)
                  clear hr111 hC111 hroom111 hi0111 hsz111
                  have KY111 := Aside0.mk hy111
                  clear hy111
                  have KL111 := Aside0.mk (show ((x9_2.length : Int) : Int).toNat ≤ t664.length from by omega)
                  replace q111 := eq_true q111
                  go_wp2_with (first | (go_at_call 49; (with_reducible refine (tree_Tree_Same.calls kj40 _ _ y697 _ _ x9_2 true _ ?side1 ?side2 ?side3 ?side4 A104.out).mono ?_); (case side1 => repeat (first | exact (by repeat (first | (with_reducible exact HR700.out) | (with_reducible refine Kd.C_alloc ?_ _) | (with_reducible refine Kd.C_drewN ?_ _) | (with_reducible refine Kd.C_drew ?_) | exact HR700.out)) | (with_reducible refine Kd.C_alloc ?_ _) | (with_reducible refine Kd.C_drewN ?_ _) | (with_reducible refine Kd.C_drew ?_))); (case side2 => exact HC700.out); (case side3 => repeat (first | exact (Kd.S_reads' HO_9.out).2.2 | (with_reducible refine Kd.C_alloc ?_ _) | (with_reducible refine Kd.C_drewN ?_ _) | (with_reducible refine Kd.C_drew ?_))); (case side4 => exact (Kd.S_reads' HO_9.out).2.1); rintro e w112 ⟨rfl, hb⟩; have n0_ := Aside0.mk (Kd.S_below (by (with_reducible repeat (first | apply Kd.S_alloc | apply Kd.S_drewN | apply Kd.S_drew)); exact HO_9.out) hb); have n1_ := Aside0.mk (Kd.S_below (by (with_reducible repeat (first | apply Kd.S_alloc | apply Kd.S_drewN | apply Kd.S_drew)); exact HO_12.out) hb); have n2_ := kb gb647 hb; have n3_ := kb gb675 hb; have n4_ := Aside0.mk (Kd.C_below (by repeat (first | (with_reducible exact HR700.out) | (with_reducible refine Kd.C_alloc ?_ _) | (with_reducible refine Kd.C_drewN ?_ _) | (with_reducible refine Kd.C_drew ?_) | exact HR700.out)) hb); have n5_ := bst hb; clear HO_9; clear HO_12; clear BK647; clear BK675; clear HR700; clear HB; have HO_9 := n0_; have HO_12 := n1_; have BK647 := n2_; have BK675 := n3_; have HR700 := n4_; have HB := n5_; clear n0_ n1_ n2_ n3_ n4_ n5_; (try clear hb)))
                  go_ret
                  exact ⟨qR, qB⟩
                ·replace c105 := Bool.eq_false_iff.mpr c105
                 subst c105
                 rw [if_neg (show ¬ (false = true) by decide)] at H
                 obtain rfl := Option.some.inj H
                 have q113 : ((x9_2.length : Int) : Int) ≤ ((t664.length : Int) : Int) := qD
                 obtain ⟨i0113, hi0113, _, hsz113, _⟩ := info_parts info43
                 have hroom113 : t664.length ≤ co45 := (Kd.S_reads' HO_12.out).2.1
                 have hC113 : Kd.C k43 _ Ao45 t664.length t664 := (Kd.S_reads' HO_12.out).2.2
                 have hcut113 := cut_to (P := Tryd.prog) 40 43 .i64 Tryd.underlying40 hi0113 Ao45 t664.length co45 (x9_2.length : Int) (qD) q113 hroom113
                 have hr113 := Kd.C_take (m := ((x9_2.length : Int) : Int).toNat) hC113 (by omega)
                 have hy113 : y697.length = ((x9_2.length : Int) : Int).toNat := (by rw [Ny697.out, List.length_take]; omega)
                 rw [← Ny697.out] at hr113
                 rw [← hy113] at hcut113
                 have HR700 := Aside0.mk hr113
                 have HC700 := Aside0.mk (show y697.length ≤ co45 from by omega)
                 clear hr113 hC113 hroom113 hi0113 hsz113
                 have KY113 := Aside0.mk hy113
                 clear hy113
                 have KL113 := Aside0.mk (show ((x9_2.length : Int) : Int).toNat ≤ t664.length from by omega)
                 replace q113 := eq_true q113
                 go_wp2_with (first | (go_at_call 49; (with_reducible refine (tree_Tree_Same.calls kj40 _ _ y697 _ _ x9_2 false _ ?side1 ?side2 ?side3 ?side4 A104.out).mono ?_); (case side1 => repeat (first | exact (by repeat (first | (with_reducible exact HR700.out) | (with_reducible refine Kd.C_alloc ?_ _) | (with_reducible refine Kd.C_drewN ?_ _) | (with_reducible refine Kd.C_drew ?_) | exact HR700.out)) | (with_reducible refine Kd.C_alloc ?_ _) | (with_reducible refine Kd.C_drewN ?_ _) | (with_reducible refine Kd.C_drew ?_))); (case side2 => exact HC700.out); (case side3 => repeat (first | exact (Kd.S_reads' HO_9.out).2.2 | (with_reducible refine Kd.C_alloc ?_ _) | (with_reducible refine Kd.C_drewN ?_ _) | (with_reducible refine Kd.C_drew ?_))); (case side4 => exact (Kd.S_reads' HO_9.out).2.1); rintro e w114 ⟨rfl, hb⟩; have n0_ := Aside0.mk (Kd.S_below (by (with_reducible repeat (first | apply Kd.S_alloc | apply Kd.S_drewN | apply Kd.S_drew)); exact HO_9.out) hb); have n1_ := Aside0.mk (Kd.S_below (by (with_reducible repeat (first | apply Kd.S_alloc | apply Kd.S_drewN | apply Kd.S_drew)); exact HO_12.out) hb); have n2_ := kb gb647 hb; have n3_ := kb gb675 hb; have n4_ := Aside0.mk (Kd.C_below (by repeat (first | (with_reducible exact HR700.out) | (with_reducible refine Kd.C_alloc ?_ _) | (with_reducible refine Kd.C_drewN ?_ _) | (with_reducible refine Kd.C_drew ?_) | exact HR700.out)) hb); have n5_ := bst hb; clear HO_9; clear HO_12; clear BK647; clear BK675; clear HR700; clear HB; have HO_9 := n0_; have HO_12 := n1_; have BK647 := n2_; have BK675 := n3_; have HR700 := n4_; have HB := n5_; clear n0_ n1_ n2_ n3_ n4_ n5_; (try clear hb)))
                 go_ret
                 exact ⟨qR, qB⟩
               ·rw [if_neg c103] at H
                exact absurd H (by simp)
              ·rw [if_neg c102] at H
               exact absurd H (by simp)
             ·rw [if_neg c101] at H
              have c101b0 := beq_eq_false_iff_ne.mpr c101
              have c101b1 := bne_iff_ne.mpr c101
              obtain rfl := Option.some.inj H
              go_wp2
              go_ret
              exact ⟨qR, qB⟩
        ·rw [if_neg c39] at H
         have c39b0 := beq_eq_false_iff_ne.mpr c39
         have c39b1 := bne_iff_ne.mpr c39
         replace H := Option.bind_eq_some_iff.mp H
         obtain ⟨t669, A1150, H⟩ := H
         (try dsimp -simprocs only at H)
         have A115 := Aside0.mk A1150
         clear A1150
         by_cases c116 : t669 = true
         ·subst c116
          rw [if_pos rfl] at H
          obtain rfl := Option.some.inj H
          obtain ⟨hcz117_0, hcz117_1, hcz117_2, hcz117_3, hfz117_0, hfz117_1, hfz117_2, hfz117_3⟩ := cells4 BK647.out
          obtain ⟨Ao118, co118, eo118⟩ := Kd.S_slice HO_9.out
          subst eo118
          go_wp2_with (first | ((with_reducible refine gc 41 rfl ?_); refine gl (some 66) #[.slice Ao118 x9_2.length co118, .int .i64 a1, .int .i64 a2, .agg #[.int .i64 a3_0, .int .i64 a3_1, .string a3_2, .int .i64 a3_3]] Tryd.func41 ?_; (with_reducible refine (tree_Tree_Put.calls k2 _ _ x9_2 a1 a2 a3_0 a3_1 a3_2 a3_3 t664 t667 t668 _ ?side1 ?side2 ?side3 A38.out).mono ?_); (case side1 => repeat (first | exact (Kd.S_reads' HO_9.out).2.2 | (with_reducible refine Kd.C_alloc ?_ _) | (with_reducible refine Kd.C_drewN ?_ _) | (with_reducible refine Kd.C_drew ?_))); (case side2 => exact (Kd.S_reads' HO_9.out).2.1); (case side3 => exact Laid.below HLD.out qB); rintro e w119 ⟨v665, rfl, ho0, hb⟩; refine ⟨_, rfl, ?_⟩; have n0_ := Aside0.mk (Kd.S_elder' (by (with_reducible repeat (first | apply Kd.S_alloc | apply Kd.S_drewN | apply Kd.S_drew)); exact HO_9.out) (Kd.S_base ho0) hb); have n1_ := Aside0.mk (Kd.S_lower (Kd.S_newB (Kd.S_new' ho0 (Kd.S_lt (by (with_reducible repeat (first | apply Kd.S_alloc | apply Kd.S_drewN | apply Kd.S_drew)); exact HO_9.out))) (g := gb647) (o := .cells #[.int .i64 a3_0, .int .i64 a3_1, .string a3_2, .int .i64 a3_3] 45 (0, 0)) qK) (below_size qB)); have n2_ := kb gb647 hb; have n3_ := bst hb; clear HO_9; clear BK647; clear HB; have HO_9 := n0_; have HO666 := n1_; have BK647 := n2_; have HB := n3_; clear n0_ n1_ n2_ n3_; (try clear hb); (try clear ho0); obtain ⟨Ao120, co120, eo120⟩ := Kd.S_slice HO666.out; subst eo120) | ((with_reducible refine gc 49 rfl ?_); refine gl (some 74) #[.slice Ao120 t664.length co120, .slice Ao118 x9_2.length co118] Tryd.func49 ?_; (with_reducible refine (tree_Tree_Same.calls k2 _ _ t664 _ _ x9_2 true _ ?side1 ?side2 ?side3 ?side4 A115.out).mono ?_); (case side1 => repeat (first | exact (Kd.S_reads' HO666.out).2.2 | (with_reducible refine Kd.C_alloc ?_ _) | (with_reducible refine Kd.C_drewN ?_ _) | (with_reducible refine Kd.C_drew ?_))); (case side2 => exact (Kd.S_reads' HO666.out).2.1); (case side3 => repeat (first | exact (Kd.S_reads' HO_9.out).2.2 | (with_reducible refine Kd.C_alloc ?_ _) | (with_reducible refine Kd.C_drewN ?_ _) | (with_reducible refine Kd.C_drew ?_))); (case side4 => exact (Kd.S_reads' HO_9.out).2.1); rintro e w121 ⟨rfl, hb⟩; refine ⟨_, rfl, ?_⟩; have n0_ := Aside0.mk (Kd.S_below (by (with_reducible repeat (first | apply Kd.S_alloc | apply Kd.S_drewN | apply Kd.S_drew)); exact HO_9.out) hb); have n1_ := Aside0.mk (Kd.S_below (by (with_reducible repeat (first | apply Kd.S_alloc | apply Kd.S_drewN | apply Kd.S_drew)); exact HO666.out) hb); have n2_ := kb gb647 hb; have n3_ := bst hb; clear HO_9; clear HO666; clear BK647; clear HB; have HO_9 := n0_; have HO666 := n1_; have BK647 := n2_; have HB := n3_; clear n0_ n1_ n2_ n3_; (try clear hb)))
          go_ret
          exact ⟨qR, qB⟩
         ·replace c116 := Bool.eq_false_iff.mpr c116
          subst c116
          rw [if_neg (show ¬ (false = true) by decide)] at H
          obtain rfl := Option.some.inj H
          obtain ⟨hcz122_0, hcz122_1, hcz122_2, hcz122_3, hfz122_0, hfz122_1, hfz122_2, hfz122_3⟩ := cells4 BK647.out
          obtain ⟨Ao123, co123, eo123⟩ := Kd.S_slice HO_9.out
          subst eo123
          go_wp2_with (first | ((with_reducible refine gc 41 rfl ?_); refine gl (some 66) #[.slice Ao123 x9_2.length co123, .int .i64 a1, .int .i64 a2, .agg #[.int .i64 a3_0, .int .i64 a3_1, .string a3_2, .int .i64 a3_3]] Tryd.func41 ?_; (with_reducible refine (tree_Tree_Put.calls k2 _ _ x9_2 a1 a2 a3_0 a3_1 a3_2 a3_3 t664 t667 t668 _ ?side1 ?side2 ?side3 A38.out).mono ?_); (case side1 => repeat (first | exact (Kd.S_reads' HO_9.out).2.2 | (with_reducible refine Kd.C_alloc ?_ _) | (with_reducible refine Kd.C_drewN ?_ _) | (with_reducible refine Kd.C_drew ?_))); (case side2 => exact (Kd.S_reads' HO_9.out).2.1); (case side3 => exact Laid.below HLD.out qB); rintro e w124 ⟨v665, rfl, ho0, hb⟩; refine ⟨_, rfl, ?_⟩; have n0_ := Aside0.mk (Kd.S_elder' (by (with_reducible repeat (first | apply Kd.S_alloc | apply Kd.S_drewN | apply Kd.S_drew)); exact HO_9.out) (Kd.S_base ho0) hb); have n1_ := Aside0.mk (Kd.S_lower (Kd.S_newB (Kd.S_new' ho0 (Kd.S_lt (by (with_reducible repeat (first | apply Kd.S_alloc | apply Kd.S_drewN | apply Kd.S_drew)); exact HO_9.out))) (g := gb647) (o := .cells #[.int .i64 a3_0, .int .i64 a3_1, .string a3_2, .int .i64 a3_3] 45 (0, 0)) qK) (below_size qB)); have n2_ := kb gb647 hb; have n3_ := bst hb; clear HO_9; clear BK647; clear HB; have HO_9 := n0_; have HO666 := n1_; have BK647 := n2_; have HB := n3_; clear n0_ n1_ n2_ n3_; (try clear hb); (try clear ho0); obtain ⟨Ao125, co125, eo125⟩ := Kd.S_slice HO666.out; subst eo125) | ((with_reducible refine gc 49 rfl ?_); refine gl (some 74) #[.slice Ao125 t664.length co125, .slice Ao123 x9_2.length co123] Tryd.func49 ?_; (with_reducible refine (tree_Tree_Same.calls k2 _ _ t664 _ _ x9_2 false _ ?side1 ?side2 ?side3 ?side4 A115.out).mono ?_); (case side1 => repeat (first | exact (Kd.S_reads' HO666.out).2.2 | (with_reducible refine Kd.C_alloc ?_ _) | (with_reducible refine Kd.C_drewN ?_ _) | (with_reducible refine Kd.C_drew ?_))); (case side2 => exact (Kd.S_reads' HO666.out).2.1); (case side3 => repeat (first | exact (Kd.S_reads' HO_9.out).2.2 | (with_reducible refine Kd.C_alloc ?_ _) | (with_reducible refine Kd.C_drewN ?_ _) | (with_reducible refine Kd.C_drew ?_))); (case side4 => exact (Kd.S_reads' HO_9.out).2.1); rintro e w126 ⟨rfl, hb⟩; refine ⟨_, rfl, ?_⟩; have n0_ := Aside0.mk (Kd.S_below (by (with_reducible repeat (first | apply Kd.S_alloc | apply Kd.S_drewN | apply Kd.S_drew)); exact HO_9.out) hb); have n1_ := Aside0.mk (Kd.S_below (by (with_reducible repeat (first | apply Kd.S_alloc | apply Kd.S_drewN | apply Kd.S_drew)); exact HO666.out) hb); have n2_ := kb gb647 hb; have n3_ := bst hb; clear HO_9; clear HO666; clear BK647; clear HB; have HO_9 := n0_; have HO666 := n1_; have BK647 := n2_; have HB := n3_; clear n0_ n1_ n2_ n3_; (try clear hb)))
          go_ret
          exact ⟨qR, qB⟩
 ·replace c6 := Bool.eq_false_iff.mpr c6
  subst c6
  rw [if_neg (show ¬ (false = true) by decide)] at H
  obtain rfl := Option.some.inj H
  go_enter Tryd.func11, Tryd.ntmps11
  go_wp2_with (first | ((with_reducible refine gate_dst (N := 7) rfl ?_); (try (refine gate_guard (by rfl) ?_; dsimp only)); refine box_event ?hg (N := 7) ?hd (cs := #[.int .i64 a3_0, .int .i64 a3_1, .string a3_2, .int .i64 a3_3]) (t := 45) ?hr ?_; (case hd => rfl); (case hg => rfl); (case hr => first | (go_simp; done) | (go_simp; rfl)); intro gb647 hg w127 hbox hb; have BK647 := Aside0.mk (hbox); have GW647 := geS hg; have GE647 := geS hg; replace HB := bst hb; clear hb hbox hg) | ((with_reducible refine gc 32 rfl ?_); refine gl (some 17) #[] Tryd.func32 ?_; (with_reducible refine (whirligiglaw22_anchor.calls k  false _ ?side1 A5.out).mono ?_); (case side1 => exact Laid.below HLD.out qB); rintro e w128 ⟨rfl, hb⟩; refine ⟨_, rfl, ?_⟩; replace BK647 := kb gb647 hb; replace HB := bst hb; (try clear hb)))
  go_ret
  exact ⟨qR, qB⟩
end Go.Proofs.YtbngfhlciebeeaaDoor.L
