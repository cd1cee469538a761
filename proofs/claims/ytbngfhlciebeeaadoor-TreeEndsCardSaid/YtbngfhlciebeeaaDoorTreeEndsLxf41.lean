/- Printed and hand-written steps towards the row (TreeEnds), those that it reaches. -/
import Derived.Test.YtbngfhlciebeeaaDoorTreeEndsG5
import Derived.Test.YtbngfhlciebeeaaDoorTreeEndsG6
import Derived.Test.YtbngfhlciebeeaaDoorTreeEndsG17
import Derived.Test.YtbngfhlciebeeaaDoorTreeEndsG19
import Derived.Test.YtbngfhlciebeeaaDoorTreeEndsGCopy
namespace Go.Proofs.YtbngfhlciebeeaaDoor.L
open Go.RowKit Go.Proofs.YtbngfhlciebeeaaDoorW.PrintWords Go.Proofs.YtbngfhlciebeeaaDoorW.PrintLast Go.Proofs.YtbngfhlciebeeaaDoorW.PrintMore
attribute [local go_sem] max2_int min2_int max_two min_two max_three min_three max_four min_four   -- for this text's walks alone
set_option linter.unusedVariables false
set_option linter.unusedSimpArgs false
mutual
def tree_Tree_Put.j1 : Nat → List (S43) → Int → Int → Int → Int → ByteArray → Int → Option ((List (S43)) × Int × Int)
 | 0, _, _, _, _, _, _, _ => none
 | k + 1, x0, x1, x2, x381000, x381001, x381002, x381003 => (tree_Tree_Copy.f x0).bind fun t400 => (if 0 ≤ x1 then (if x1 < (x0.length : Int) then (if x2 < ((rd_T43 x0 x1).f2) then ((tree_Branch_ahead.f k ((rd_T43 x0 x1).f0) ((rd_T43 x0 x1).f1) ((rd_T43 x0 x1).f2) ((rd_T43 x0 x1).f3) x2).bind fun t405 => (if t400.length < 2932031007402 then ((some (t400 ++ [(⟨x1, x2, 0, t405⟩ : S43)] : List (S43))).bind fun y408 => (if 0 ≤ (wrap64 ((y408.length : Int) - 1)) then (if (wrap64 ((y408.length : Int) - 1)) < (y408.length : Int) then (if ((rd_T43 y408 (wrap64 ((y408.length : Int) - 1))).f3).length < 3518437208883 then ((some (y408.set ((wrap64 ((y408.length : Int) - 1)) : Int).toNat (⟨(rd_T43 y408 (wrap64 ((y408.length : Int) - 1))).f0, (rd_T43 y408 (wrap64 ((y408.length : Int) - 1))).f1, (rd_T43 y408 (wrap64 ((y408.length : Int) - 1))).f2, (((rd_T43 y408 (wrap64 ((y408.length : Int) - 1))).f3) ++ [(⟨x381000, x381001, x381002, x381003⟩ : S45)])⟩ : S43) : List (S43))).bind fun y415 => (some ((y415.set ((wrap64 ((y408.length : Int) - 1)) : Int).toNat (⟨(rd_T43 y415 (wrap64 ((y408.length : Int) - 1))).f0, (rd_T43 y415 (wrap64 ((y408.length : Int) - 1))).f1, wrap64 (x2 + 1), (rd_T43 y415 (wrap64 ((y408.length : Int) - 1))).f3⟩ : S43)), wrap64 ((y408.length : Int) - 1), 0))) else (none)) else (none)) else (none))) else (none))) else (if x1 < (t400.length : Int) then (if ((rd_T43 t400 x1).f3).length < 3518437208883 then ((some (t400.set (x1 : Int).toNat (⟨(rd_T43 t400 x1).f0, (rd_T43 t400 x1).f1, (rd_T43 t400 x1).f2, (((rd_T43 t400 x1).f3) ++ [(⟨x381000, x381001, x381002, x381003⟩ : S45)])⟩ : S43) : List (S43))).bind fun y421 => (some ((y421.set (x1 : Int).toNat (⟨(rd_T43 y421 x1).f0, (rd_T43 y421 x1).f1, wrap64 (x2 + 1), (rd_T43 y421 x1).f3⟩ : S43)), x1, 0))) else (none)) else (none))) else (none)) else (none))
def tree_Tree_Put.j0 : Nat → List (S43) → Int → Int → Bool → Int → Int → ByteArray → Int → Option ((List (S43)) × Int × Int)
 | 0, _, _, _, _, _, _, _, _ => none
 | k + 1, x0, x1, x2, x21, x381000, x381001, x381002, x381003 => if x21 = true then ((tree_Tree_Copy.f x0).bind fun t383 => (some (t383, 0, 10))) else ((tree_Input_Right.f k x381000 x381001 x381002 x381003).bind fun t386 => (if t386 = true then (if x2 ≥ 512 then ((tree_Tree_Copy.f x0).bind fun t387 => (some (t387, 0, 41))) else (if 0 ≤ x1 then (if x1 < (x0.length : Int) then (if x2 < ((rd_T43 x0 x1).f2) then (if (x0.length : Int) ≥ 8 then ((tree_Tree_Copy.f x0).bind fun t391 => (some (t391, 0, 42))) else (tree_Tree_Put.j1 k x0 x1 x2 x381000 x381001 x381002 x381003)) else (tree_Tree_Put.j1 k x0 x1 x2 x381000 x381001 x381002 x381003)) else (none)) else (none))) else ((tree_Tree_Copy.f x0).bind fun t394 => (some (t394, 0, 11)))))
end
def tree_Tree_Put.f (k : Nat) (l0 : List (S43)) (a1 : Int) (a2 : Int) (a3_0 : Int) (a3_1 : Int) (a3_2 : ByteArray) (a3_3 : Int) : Option ((List (S43)) × Int × Int) := (tree_Tree_has.f l0 a1).bind fun t381 => (if t381 = true then (if a2 < 0 then (tree_Tree_Put.j0 k l0 a1 a2 true a2 a3_1 a3_2 a3_3) else (if 0 ≤ a1 then (if a1 < (l0.length : Int) then (tree_Tree_Put.j0 k l0 a1 a2 (decide (a2 > ((rd_T43 l0 a1).f2))) a2 a3_1 a3_2 a3_3) else (none)) else (none))) else ((tree_Tree_Copy.f l0).bind fun t397 => (some (t397, 0, 12))))
def tree_Tree_Put.T16 : Bool × List (List Nat × List Nat) := (true, [([], []), ([], []), ([], []), ([], []), ([2, 3], [2, 3]), ([4], [4]), ([5], [5]), ([], []), ([7], [7]), ([6, 8], [6, 8]), ([0, 1, 0, 1, 2, 3, 4, 5, 6, 7, 8, 9], [0, 1]), ([10, 0, 1, 2, 3, 4, 5, 6, 7, 8, 9], [10]), ([11, 9, 9, 0, 1, 2, 3, 4, 5, 6, 7, 8, 9], [9, 11])])
def tree_Tree_Put.B16 : List Nat := [0, 0, 0, 0, 12, 28, 60, 0, 128, 508, 1023, 2047, 4095]
theorem tree_Tree_Put.tab16 : rtab .any (opsOf Tryd.f41 16) = tree_Tree_Put.T16 := by kernel_rfl
theorem tree_Tree_Put.bits16 : waitsOk tree_Tree_Put.T16.2 tree_Tree_Put.B16 = true := by kernel_rfl
set_option maxHeartbeats 8000000 in
set_option maxRecDepth 100000 in
theorem tree_Tree_Put.calls (k : Nat) (A0 : Option Addr) (c0 : Nat) (l0 : List (S43)) (a1 : Int) (a2 : Int) (a3_0 : Int) (a3_1 : Int) (a3_2 : ByteArray) (a3_3 : Int) (r1 : List (S43)) (r2 : Int) (r3 : Int) (w : World) (hr0 : Kd.C k43 w A0 l0.length l0) (hc0 : l0.length ≤ c0) (hL : Laid w) (h : tree_Tree_Put.f k l0 a1 a2 a3_0 a3_1 a3_2 a3_3 = some (r1, r2, r3)) :
  Calls Tryd.prog 41 #[.slice A0 l0.length c0, .int .i64 a1, .int .i64 a2, .agg #[.int .i64 a3_0, .int .i64 a3_1, .string a3_2, .int .i64 a3_3]] w fun e w' => ∃ v0_ : Value, e = .returned (.tuple #[v0_, .int .i64 r2, .int .i64 r3]) ∧ Kd.S k43 43 w' w.heap.size (fun _ => True) v0_ r1 ∧ Below w.heap.size w w' := by
 have hu45 := Tryd.underlying45
 have hu43 := Tryd.underlying43
 have HR0 := Aside0.mk hr0
 have HC0 := Aside0.mk hc0
 clear hr0 hc0
 have HB := Aside0.mk (Below.refl w.heap.size w)
 have HLD := Aside0.mk hL
 clear hL
 have H : ((tree_Tree_has.f l0 a1).bind fun t381 => (if t381 = true then (if a2 < 0 then (tree_Tree_Put.j0 k l0 a1 a2 true a2 a3_1 a3_2 a3_3) else (if 0 ≤ a1 then (if a1 < (l0.length : Int) then (tree_Tree_Put.j0 k l0 a1 a2 (decide (a2 > ((rd_T43 l0 a1).f2))) a2 a3_1 a3_2 a3_3) else (none)) else (none))) else ((tree_Tree_Copy.f l0).bind fun t397 => (some (t397, 0, 12))))) = some (r1, r2, r3) := h
 clear h
 have HC5 := Aside0.mk H
 clear H
 go_enter Tryd.func41, Tryd.ntmps41
 go_upto_block 0 with (first | ((with_reducible refine gate_dst (N := 7) rfl ?_); (try (refine gate_guard (by rfl) ?_; dsimp only)); refine box_event ?hg (N := 7) ?hd (cs := #[.int .i64 a3_0, .int .i64 a3_1, .string a3_2, .int .i64 a3_3]) (t := 45) ?hr ?_; (case hd => rfl); (case hg => rfl); (case hr => first | (go_simp; done) | (go_simp; rfl)); intro gb380 hg w6 hbox hb; have BK380 := Aside0.mk (hbox); have GW380 := geS hg; have GE380 := geS hg; replace HB := bst hb; clear hb hbox hg; obtain ⟨hcz7_0, hcz7_1, hcz7_2, hcz7_3, hfz7_0, hfz7_1, hfz7_2, hfz7_3⟩ := cells4 BK380.out))
 (try simp only [Act.put, List.setIfInBounds_toArray, List.set_cons_zero, List.set_cons_succ])
 go_cut [] (fun wc => ∃ (kq : Nat), Aside0 (tree_Tree_Put.j1 kq l0 a1 a2 a2 a3_1 a3_2 a3_3 = some (r1, r2, r3)) ∧ Aside0 (kq ≤ k) ∧ Aside0 (wc.heap[gb380]? = some (.cells #[.int .i64 a2, .int .i64 a3_1, .string a3_2, .int .i64 a3_3] 45 (0, 0))) ∧ Aside0 (Below w.heap.size w wc))
 case first =>
  have H := HC5.out
  clear HC5
  replace H := Option.bind_eq_some_iff.mp H
  obtain ⟨t381, A80, H⟩ := H
  (try dsimp -simprocs only at H)
  have A8 := Aside0.mk A80
  clear A80
  by_cases c9 : t381 = true
  ·subst c9
   rw [if_pos rfl] at H
   have HC10 := Aside0.mk H
   clear H
   go_upto_region 4 with (first | ((with_reducible refine gc 80 rfl ?_); refine gl (some 17) #[.slice A0 l0.length c0, .int .i64 a1] Tryd.func80 ?_; (with_reducible refine (tree_Tree_has.calls _ _ l0 a1 true _ ?side1 ?side2 A8.out).mono ?_); (case side1 => exact Kd.C_below HR0.out qB); (case side2 => exact HC0.out); rintro e w' ⟨rfl, ⟨nd, rfl⟩⟩; refine ⟨_, rfl, ?_⟩))
   (try simp only [Act.put, List.setIfInBounds_toArray, List.set_cons_zero, List.set_cons_succ])
   go_cut [21] (fun v21 wc => ∃ (kq : Nat) (x21_9 : Bool), v21 = .bool x21_9 ∧ Aside0 (tree_Tree_Put.j0 kq l0 a1 a2 x21_9 a2 a3_1 a3_2 a3_3 = some (r1, r2, r3)) ∧ Aside0 (kq ≤ k) ∧ Aside0 (wc.heap[gb380]? = some (.cells #[.int .i64 a2, .int .i64 a3_1, .string a3_2, .int .i64 a3_3] 45 (0, 0))) ∧ Aside0 (Below w.heap.size w wc))
   case first =>
    have H := HC10.out
    clear HC10
    replace H := iD H
    rcases H with ⟨c11b0, H⟩ | ⟨c11b0, H⟩
    ·(first | rw [c11b0] | (simp only [i64_w, i32_w]; rw [c11b0]) | skip)
     have H' := Aside0.mk H
     clear H
     go_wp2
     go_meet
     case rel => exact ⟨_, (true), (by first | rfl | (simp; done) | (simp [*]; done)), H', ⟨by first | omega | exact Nat.le_refl _⟩, ⟨qP⟩, ⟨qB⟩⟩
    ·(first | rw [c11b0] | (simp only [i64_w, i32_w]; rw [c11b0]) | skip)
     replace H := iD H
     rcases H with ⟨c12b0, H⟩ | ⟨c12b0, H⟩
     ·by_cases c13 : a1 < (l0.length : Int)
      ·rw [if_pos c13] at H
       have c13b0 := decide_eq_true c13
       clear c13
       have H' := Aside0.mk H
       clear H
       have p382 : 0 ≤ (a1 : Int) := qD
       have q382 : a1 < (l0.length : Int) := qD
       obtain ⟨ad382, A382_3, c382_3, e382, hx382_0, hx382_1, hx382_2, hx382_3, hl382_3, hi382_3⟩ := at_T43 HR0.out a1 p382 q382
       cases e382
       have hn382_0 : ad382.block ≠ gb380 := cne hx382_0 GW380
       replace hx382_0 := pw_cell_below HB.out hx382_0
       replace hx382_1 := pw_cell_below HB.out hx382_1
       replace hx382_2 := pw_cell_below HB.out hx382_2
       replace hx382_3 := pw_cell_below HB.out hx382_3
       have HR382_3 := Aside0.mk hi382_3
       have HC382_3 := Aside0.mk hl382_3
       clear hi382_3 hl382_3
       replace hx382_0 := cfa ⟨gb380, 0, none⟩ (.int .i64 a2) hx382_0
       replace hx382_1 := cfa ⟨gb380, 0, none⟩ (.int .i64 a2) hx382_1
       replace hx382_2 := cfa ⟨gb380, 0, none⟩ (.int .i64 a2) hx382_2
       replace hx382_3 := cfa ⟨gb380, 0, none⟩ (.int .i64 a2) hx382_3
       clear hn382_0
       replace p382 := eq_true p382
       replace q382 := eq_true q382
       go_wp2
       go_meet
       case rel => exact ⟨_, (decide (a2 > ((rd_T43 l0 a1).f2))), (by first | rfl | (simp; done) | (simp [*]; done)), H', ⟨by first | omega | exact Nat.le_refl _⟩, ⟨qP⟩, ⟨qB⟩⟩
      ·rw [if_neg c13] at H
       exact absurd H (by simp)
     ·exact absurd H (by simp)
   case rest =>
    clear HC10
    try clear c1
    try clear p2
    try clear c3
    try clear p3
    try clear q3
    try clear hx3
    try clear c4
    try clear c8
    try clear c9
    try clear c11
    try clear c11b0
    try clear c12
    try clear c12b0
    try clear c13
    try clear c13b0
    try clear hcz7_0 hcz7_1 hcz7_2 hcz7_3 hfz7_0 hfz7_1 hfz7_2 hfz7_3
    try clear hx382_0
    try clear hx382_1
    try clear hx382_2
    try clear hx382_3
    try clear p382
    try clear q382
    obtain ⟨kq, x21_9, rfl, HA, HJ9, BK380, HB⟩ := hcut
    cases kq with
    | zero => exact absurd HA.out (by simp [tree_Tree_Put.j0])
    | succ kj9 =>
     have H := HA.out
     clear HA
     simp only [tree_Tree_Put.j0] at H
     by_cases c14 : x21_9 = true
     ·subst c14
      rw [if_pos rfl] at H
      replace H := Option.bind_eq_some_iff.mp H
      obtain ⟨t383, A150, H⟩ := H
      (try dsimp -simprocs only at H)
      have A15 := Aside0.mk A150
      clear A150
      simp only [Option.some.injEq, Prod.mk.injEq] at H
      obtain ⟨rfl, rfl, rfl⟩ := H
      go_wp2_with (first | ((with_reducible refine gc 50 rfl ?_); refine gl (some 34) #[.slice A0 l0.length c0] Tryd.func50 ?_; (with_reducible refine (tree_Tree_Copy.calls _ _ l0 t383 _ ?side1 ?side2 A15.out).mono ?_); (case side1 => exact qC); (case side2 => exact HC0.out); rintro e w16 ⟨v384, rfl, ho0, hb⟩; refine ⟨_, rfl, ?_⟩; have HO385 := Aside0.mk (Kd.S_lower (Kd.S_newB ho0 (g := gb380) (o := .cells #[.int .i64 a2, .int .i64 a3_1, .string a3_2, .int .i64 a3_3] 45 (0, 0)) qK) (below_size qB)); replace BK380 := kb gb380 hb; replace HB := bst hb; (try clear hb); (try clear ho0)))
      go_ret3
      exact ⟨_, qR, by (with_reducible repeat (first | apply Kd.S_alloc | apply Kd.S_drewN | apply Kd.S_drew)); exact Kd.S_mono HO385.out (fun _ hk => trivial), qB⟩
     ·replace c14 := Bool.eq_false_iff.mpr c14
      subst c14
      rw [if_neg (show ¬ (false = true) by decide)] at H
      replace H := Option.bind_eq_some_iff.mp H
      obtain ⟨t386, A170, H⟩ := H
      (try dsimp -simprocs only at H)
      have A17 := Aside0.mk A170
      clear A170
      by_cases c18 : t386 = true
      ·subst c18
       rw [if_pos rfl] at H
       replace H := iD H
       rcases H with ⟨c19b0, H⟩ | ⟨c19b0, H⟩
       ·replace H := Option.bind_eq_some_iff.mp H
        obtain ⟨t387, A200, H⟩ := H
        (try dsimp -simprocs only at H)
        have A20 := Aside0.mk A200
        clear A200
        simp only [Option.some.injEq, Prod.mk.injEq] at H
        obtain ⟨rfl, rfl, rfl⟩ := H
        obtain ⟨hcz21_0, hcz21_1, hcz21_2, hcz21_3, hfz21_0, hfz21_1, hfz21_2, hfz21_3⟩ := cells4 BK380.out
        go_wp2_with (first | ((with_reducible refine gc 33 rfl ?_); refine gl (some 37) #[.agg #[.int .i64 a2, .int .i64 a3_1, .string a3_2, .int .i64 a3_3]] Tryd.func33 ?_; (with_reducible refine (tree_Input_Right.calls kj9 a2 a3_1 a3_2 a3_3 true _ ?side1 A17.out).mono ?_); (case side1 => exact Laid.below HLD.out qB); rintro e w22 ⟨rfl, hb⟩; refine ⟨_, rfl, ?_⟩; replace BK380 := kb gb380 hb; replace HB := bst hb; (try clear hb)) | ((with_reducible refine gc 50 rfl ?_); refine gl (some 45) #[.slice A0 l0.length c0] Tryd.func50 ?_; (with_reducible refine (tree_Tree_Copy.calls _ _ l0 t387 _ ?side1 ?side2 A20.out).mono ?_); (case side1 => exact qC); (case side2 => exact HC0.out); rintro e w23 ⟨v388, rfl, ho0, hb⟩; refine ⟨_, rfl, ?_⟩; have HO389 := Aside0.mk (Kd.S_lower (Kd.S_newB ho0 (g := gb380) (o := .cells #[.int .i64 a2, .int .i64 a3_1, .string a3_2, .int .i64 a3_3] 45 (0, 0)) qK) (below_size qB)); replace BK380 := kb gb380 hb; replace HB := bst hb; (try clear hb); (try clear ho0)))
        go_ret3
        exact ⟨_, qR, by (with_reducible repeat (first | apply Kd.S_alloc | apply Kd.S_drewN | apply Kd.S_drew)); exact Kd.S_mono HO389.out (fun _ hk => trivial), qB⟩
       ·by_cases c24 : 0 ≤ a1
        ·rw [if_pos c24] at H
         have c24b0 := decide_eq_true c24
         clear c24
         replace H := iD H
         rcases H with ⟨c25b0, H⟩ | ⟨c25b0, H⟩
         ·by_cases c26 : a2 < ((rd_T43 l0 a1).f2)
          ·rw [if_pos c26] at H
           have c26b0 := decide_eq_true c26
           clear c26
           by_cases c27 : (l0.length : Int) ≥ 8
           ·rw [if_pos c27] at H
            have c27b0 := decide_eq_true c27
            have c27b1 : decide (8 ≤ l0.length) = true := decide_eq_true (by omega)
            clear c27
            replace H := Option.bind_eq_some_iff.mp H
            obtain ⟨t391, A280, H⟩ := H
            (try dsimp -simprocs only at H)
            have A28 := Aside0.mk A280
            clear A280
            simp only [Option.some.injEq, Prod.mk.injEq] at H
            obtain ⟨rfl, rfl, rfl⟩ := H
            obtain ⟨hcz29_0, hcz29_1, hcz29_2, hcz29_3, hfz29_0, hfz29_1, hfz29_2, hfz29_3⟩ := cells4 BK380.out
            go_wp2_with (first | ((with_reducible refine gc 33 rfl ?_); refine gl (some 37) #[.agg #[.int .i64 a2, .int .i64 a3_1, .string a3_2, .int .i64 a3_3]] Tryd.func33 ?_; (with_reducible refine (tree_Input_Right.calls kj9 a2 a3_1 a3_2 a3_3 true _ ?side1 A17.out).mono ?_); (case side1 => exact Laid.below HLD.out qB); rintro e w30 ⟨rfl, hb⟩; refine ⟨_, rfl, ?_⟩; replace BK380 := kb gb380 hb; replace HB := bst hb; (try clear hb); have p390 : 0 ≤ (a1 : Int) := qD; have q390 : a1 < (l0.length : Int) := qD; obtain ⟨ad390, A390_3, c390_3, e390, hx390_0, hx390_1, hx390_2, hx390_3, hl390_3, hi390_3⟩ := at_T43 HR0.out a1 p390 q390; cases e390; replace hx390_0 := pw_cell_below HB.out hx390_0; replace hx390_1 := pw_cell_below HB.out hx390_1; replace hx390_2 := pw_cell_below HB.out hx390_2; replace hx390_3 := pw_cell_below HB.out hx390_3; have HR390_3 := Aside0.mk hi390_3; have HC390_3 := Aside0.mk hl390_3; clear hi390_3 hl390_3; replace p390 := eq_true p390; replace q390 := eq_true q390) | ((with_reducible refine gc 50 rfl ?_); refine gl (some 60) #[.slice (some ad390) l0.length c0] Tryd.func50 ?_; (with_reducible refine (tree_Tree_Copy.calls _ _ l0 t391 _ ?side1 ?side2 A28.out).mono ?_); (case side1 => exact qC); (case side2 => exact HC0.out); rintro e w31 ⟨v392, rfl, ho0, hb⟩; refine ⟨_, rfl, ?_⟩; have HO393 := Aside0.mk (Kd.S_lower (Kd.S_newB ho0 (g := gb380) (o := .cells #[.int .i64 a2, .int .i64 a3_1, .string a3_2, .int .i64 a3_3] 45 (0, 0)) qK) (below_size qB)); replace BK380 := kb gb380 hb; replace HB := bst hb; (try clear hb); (try clear ho0)))
            go_ret3
            exact ⟨_, qR, by (with_reducible repeat (first | apply Kd.S_alloc | apply Kd.S_drewN | apply Kd.S_drew)); exact Kd.S_mono HO393.out (fun _ hk => trivial), qB⟩
           ·rw [if_neg c27] at H
            have c27b0 := decide_eq_false c27
            have c27b1 : decide (8 ≤ l0.length) = false := decide_eq_false (by omega)
            clear c27
            have H' := Aside0.mk H
            clear H
            obtain ⟨hcz32_0, hcz32_1, hcz32_2, hcz32_3, hfz32_0, hfz32_1, hfz32_2, hfz32_3⟩ := cells4 BK380.out
            go_wp2_with (first | ((with_reducible refine gc 33 rfl ?_); refine gl (some 37) #[.agg #[.int .i64 a2, .int .i64 a3_1, .string a3_2, .int .i64 a3_3]] Tryd.func33 ?_; (with_reducible refine (tree_Input_Right.calls kj9 a2 a3_1 a3_2 a3_3 true _ ?side1 A17.out).mono ?_); (case side1 => exact Laid.below HLD.out qB); rintro e w33 ⟨rfl, hb⟩; refine ⟨_, rfl, ?_⟩; replace BK380 := kb gb380 hb; replace HB := bst hb; (try clear hb); have p390 : 0 ≤ (a1 : Int) := qD; have q390 : a1 < (l0.length : Int) := qD; obtain ⟨ad390, A390_3, c390_3, e390, hx390_0, hx390_1, hx390_2, hx390_3, hl390_3, hi390_3⟩ := at_T43 HR0.out a1 p390 q390; cases e390; replace hx390_0 := pw_cell_below HB.out hx390_0; replace hx390_1 := pw_cell_below HB.out hx390_1; replace hx390_2 := pw_cell_below HB.out hx390_2; replace hx390_3 := pw_cell_below HB.out hx390_3; have HR390_3 := Aside0.mk hi390_3; have HC390_3 := Aside0.mk hl390_3; clear hi390_3 hl390_3; replace p390 := eq_true p390; replace q390 := eq_true q390))
            go_meet
            case rel => exact ⟨_, H', ⟨by have := HJ9.out; first | omega | exact Nat.le_refl _⟩, ⟨qK⟩, ⟨qB⟩⟩
          ·rw [if_neg c26] at H
           have c26b0 := decide_eq_false c26
           clear c26
           have H' := Aside0.mk H
           clear H
           obtain ⟨hcz34_0, hcz34_1, hcz34_2, hcz34_3, hfz34_0, hfz34_1, hfz34_2, hfz34_3⟩ := cells4 BK380.out
           go_wp2_with (first | ((with_reducible refine gc 33 rfl ?_); refine gl (some 37) #[.agg #[.int .i64 a2, .int .i64 a3_1, .string a3_2, .int .i64 a3_3]] Tryd.func33 ?_; (with_reducible refine (tree_Input_Right.calls kj9 a2 a3_1 a3_2 a3_3 true _ ?side1 A17.out).mono ?_); (case side1 => exact Laid.below HLD.out qB); rintro e w35 ⟨rfl, hb⟩; refine ⟨_, rfl, ?_⟩; replace BK380 := kb gb380 hb; replace HB := bst hb; (try clear hb); have p390 : 0 ≤ (a1 : Int) := qD; have q390 : a1 < (l0.length : Int) := qD; obtain ⟨ad390, A390_3, c390_3, e390, hx390_0, hx390_1, hx390_2, hx390_3, hl390_3, hi390_3⟩ := at_T43 HR0.out a1 p390 q390; cases e390; replace hx390_0 := pw_cell_below HB.out hx390_0; replace hx390_1 := pw_cell_below HB.out hx390_1; replace hx390_2 := pw_cell_below HB.out hx390_2; replace hx390_3 := pw_cell_below HB.out hx390_3; have HR390_3 := Aside0.mk hi390_3; have HC390_3 := Aside0.mk hl390_3; clear hi390_3 hl390_3; replace p390 := eq_true p390; replace q390 := eq_true q390))
           go_meet
           case rel => exact ⟨_, H', ⟨by have := HJ9.out; first | omega | exact Nat.le_refl _⟩, ⟨qK⟩, ⟨qB⟩⟩
         ·exact absurd H (by simp)
        ·rw [if_neg c24] at H
         exact absurd H (by simp)
      ·replace c18 := Bool.eq_false_iff.mpr c18
       subst c18
       rw [if_neg (show ¬ (false = true) by decide)] at H
       replace H := Option.bind_eq_some_iff.mp H
       obtain ⟨t394, A360, H⟩ := H
       (try dsimp -simprocs only at H)
       have A36 := Aside0.mk A360
       clear A360
       simp only [Option.some.injEq, Prod.mk.injEq] at H
       obtain ⟨rfl, rfl, rfl⟩ := H
       obtain ⟨hcz37_0, hcz37_1, hcz37_2, hcz37_3, hfz37_0, hfz37_1, hfz37_2, hfz37_3⟩ := cells4 BK380.out
       go_wp2_with (first | ((with_reducible refine gc 33 rfl ?_); refine gl (some 37) #[.agg #[.int .i64 a2, .int .i64 a3_1, .string a3_2, .int .i64 a3_3]] Tryd.func33 ?_; (with_reducible refine (tree_Input_Right.calls kj9 a2 a3_1 a3_2 a3_3 false _ ?side1 A17.out).mono ?_); (case side1 => exact Laid.below HLD.out qB); rintro e w38 ⟨rfl, hb⟩; refine ⟨_, rfl, ?_⟩; replace BK380 := kb gb380 hb; replace HB := bst hb; (try clear hb)) | ((with_reducible refine gc 50 rfl ?_); refine gl (some 40) #[.slice A0 l0.length c0] Tryd.func50 ?_; (with_reducible refine (tree_Tree_Copy.calls _ _ l0 t394 _ ?side1 ?side2 A36.out).mono ?_); (case side1 => exact qC); (case side2 => exact HC0.out); rintro e w39 ⟨v395, rfl, ho0, hb⟩; refine ⟨_, rfl, ?_⟩; have HO396 := Aside0.mk (Kd.S_lower (Kd.S_newB ho0 (g := gb380) (o := .cells #[.int .i64 a2, .int .i64 a3_1, .string a3_2, .int .i64 a3_3] 45 (0, 0)) qK) (below_size qB)); replace BK380 := kb gb380 hb; replace HB := bst hb; (try clear hb); (try clear ho0)))
       go_ret3
       exact ⟨_, qR, by (with_reducible repeat (first | apply Kd.S_alloc | apply Kd.S_drewN | apply Kd.S_drew)); exact Kd.S_mono HO396.out (fun _ hk => trivial), qB⟩
  ·replace c9 := Bool.eq_false_iff.mpr c9
   subst c9
   rw [if_neg (show ¬ (false = true) by decide)] at H
   replace H := Option.bind_eq_some_iff.mp H
   obtain ⟨t397, A400, H⟩ := H
   (try dsimp -simprocs only at H)
   have A40 := Aside0.mk A400
   clear A400
   simp only [Option.some.injEq, Prod.mk.injEq] at H
   obtain ⟨rfl, rfl, rfl⟩ := H
   go_wp2_with (first | ((with_reducible refine gc 80 rfl ?_); refine gl (some 17) #[.slice A0 l0.length c0, .int .i64 a1] Tryd.func80 ?_; (with_reducible refine (tree_Tree_has.calls _ _ l0 a1 false _ ?side1 ?side2 A8.out).mono ?_); (case side1 => exact Kd.C_below HR0.out qB); (case side2 => exact HC0.out); rintro e w' ⟨rfl, ⟨nd, rfl⟩⟩; refine ⟨_, rfl, ?_⟩) | ((with_reducible refine gc 50 rfl ?_); refine gl (some 20) #[.slice A0 l0.length c0] Tryd.func50 ?_; (with_reducible refine (tree_Tree_Copy.calls _ _ l0 t397 _ ?side1 ?side2 A40.out).mono ?_); (case side1 => exact Kd.C_below HR0.out qB); (case side2 => exact HC0.out); rintro e w41 ⟨v398, rfl, ho0, hb⟩; refine ⟨_, rfl, ?_⟩; have HO399 := Aside0.mk (Kd.S_lower (Kd.S_newB ho0 (g := gb380) (o := .cells #[.int .i64 a2, .int .i64 a3_1, .string a3_2, .int .i64 a3_3] 45 (0, 0)) qP) (below_size qB)); replace BK380 := kp gb380 (.cells #[.int .i64 a2, .int .i64 a3_1, .string a3_2, .int .i64 a3_3] 45 (0, 0)) hb; replace HB := bst hb; (try clear hb); (try clear ho0)))
   go_ret3
   exact ⟨_, qR, by (with_reducible repeat (first | apply Kd.S_alloc | apply Kd.S_drewN | apply Kd.S_drew)); exact Kd.S_mono HO399.out (fun _ hk => trivial), qB⟩
 case rest =>
  clear HC5
  try clear c1
  try clear c2
  try clear p2 p2
  try clear c3
  try clear p3 p3
  try clear q3 q3
  try clear hx3
  try clear c4
  try clear c5
  try clear c8
  try clear c9
  try clear c11
  try clear c11b0
  try clear c12
  try clear c12b0
  try clear c13
  try clear c13b0
  try clear c14
  try clear c18
  try clear c19
  try clear c19b0
  try clear c24
  try clear c24b0
  try clear c25
  try clear c25b0
  try clear c26
  try clear c26b0
  try clear c27
  try clear c27b0
  try clear c27b1
  try clear c33
  try clear c38
  try clear p38
  try clear q38
  try clear hx38
  try clear c39
  try clear p39
  try clear q39
  try clear hx39
  try clear c41
  try clear hcz21_0 hcz21_1 hcz21_2 hcz21_3 hfz21_0 hfz21_1 hfz21_2 hfz21_3
  try clear hcz29_0 hcz29_1 hcz29_2 hcz29_3 hfz29_0 hfz29_1 hfz29_2 hfz29_3
  try clear hcz32_0 hcz32_1 hcz32_2 hcz32_3 hfz32_0 hfz32_1 hfz32_2 hfz32_3
  try clear hcz34_0 hcz34_1 hcz34_2 hcz34_3 hfz34_0 hfz34_1 hfz34_2 hfz34_3
  try clear hcz37_0 hcz37_1 hcz37_2 hcz37_3 hfz37_0 hfz37_1 hfz37_2 hfz37_3
  try clear hcz7_0 hcz7_1 hcz7_2 hcz7_3 hfz7_0 hfz7_1 hfz7_2 hfz7_3
  try clear hx382_0
  try clear hx382_1
  try clear hx382_2
  try clear hx382_3
  try clear hx390_0
  try clear hx390_1
  try clear hx390_2
  try clear hx390_3
  try clear p382
  try clear p390
  try clear q382
  try clear q390
  obtain ⟨kq, HA, HJ4, BK380, HB⟩ := hcut
  cases kq with
  | zero => exact absurd HA.out (by simp [tree_Tree_Put.j1])
  | succ kj4 =>
   have H := HA.out
   clear HA
   simp only [tree_Tree_Put.j1] at H
   replace H := Option.bind_eq_some_iff.mp H
   obtain ⟨t400, A420, H⟩ := H
   (try dsimp -simprocs only at H)
   have A42 := Aside0.mk A420
   clear A420
   replace H := iD H
   rcases H with ⟨c43b0, H⟩ | ⟨c43b0, H⟩
   ·by_cases c44 : a1 < (l0.length : Int)
    ·rw [if_pos c44] at H
     have c44b0 := decide_eq_true c44
     clear c44
     replace H := iD H
     rcases H with ⟨c45b0, H⟩ | ⟨c45b0, H⟩
     ·replace H := Option.bind_eq_some_iff.mp H
      obtain ⟨t405, A460, H⟩ := H
      (try dsimp -simprocs only at H)
      have A46 := Aside0.mk A460
      clear A460
      by_cases c47 : t400.length < 2932031007402
      ·rw [if_pos c47] at H
       have LMc47 := Aside0.mk c47
       clear c47
       obtain ⟨y408, hy408⟩ : ∃ y_ : List (S43), y_ = (t400 ++ [(⟨a1, a2, 0, t405⟩ : S43)]) := ⟨_, rfl⟩
       replace H : (if 0 ≤ (wrap64 ((y408.length : Int) - 1)) then (if (wrap64 ((y408.length : Int) - 1)) < (y408.length : Int) then (if ((rd_T43 y408 (wrap64 ((y408.length : Int) - 1))).f3).length < 3518437208883 then ((some (y408.set ((wrap64 ((y408.length : Int) - 1)) : Int).toNat (⟨(rd_T43 y408 (wrap64 ((y408.length : Int) - 1))).f0, (rd_T43 y408 (wrap64 ((y408.length : Int) - 1))).f1, (rd_T43 y408 (wrap64 ((y408.length : Int) - 1))).f2, (((rd_T43 y408 (wrap64 ((y408.length : Int) - 1))).f3) ++ [(⟨a2, a3_1, a3_2, a3_3⟩ : S45)])⟩ : S43) : List (S43))).bind fun y415 => (some ((y415.set ((wrap64 ((y408.length : Int) - 1)) : Int).toNat (⟨(rd_T43 y415 (wrap64 ((y408.length : Int) - 1))).f0, (rd_T43 y415 (wrap64 ((y408.length : Int) - 1))).f1, wrap64 (a2 + 1), (rd_T43 y415 (wrap64 ((y408.length : Int) - 1))).f3⟩ : S43)), wrap64 ((y408.length : Int) - 1), 0))) else (none)) else (none)) else (none)) = some (r1, r2, r3) := by first | (rw [hy408]; with_reducible exact H) | (have H2_ := (Option.bind_some _ _).symm.trans H; rw [hy408]; with_reducible exact H2_) | (have H2_ := (Option.bind_some _ _).symm.trans H; with_reducible exact H2_) | with_reducible exact H | (rw [hy408]; exact H) | exact H
       have Ny408 := Aside0.mk hy408
       clear hy408
       obtain ⟨ji48, hji48⟩ : ∃ j_ : Int, (wrap64 ((y408.length : Int) - 1)) = j_ := ⟨_, rfl⟩
       replace H : (if 0 ≤ (ji48) then (if (ji48) < (y408.length : Int) then (if ((rd_T43 y408 (ji48)).f3).length < 3518437208883 then ((some (y408.set ((ji48) : Int).toNat (⟨(rd_T43 y408 (ji48)).f0, (rd_T43 y408 (ji48)).f1, (rd_T43 y408 (ji48)).f2, (((rd_T43 y408 (ji48)).f3) ++ [(⟨a2, a3_1, a3_2, a3_3⟩ : S45)])⟩ : S43) : List (S43))).bind fun y415 => (some ((y415.set ((ji48) : Int).toNat (⟨(rd_T43 y415 (ji48)).f0, (rd_T43 y415 (ji48)).f1, wrap64 (a2 + 1), (rd_T43 y415 (ji48)).f3⟩ : S43)), ji48, 0))) else (none)) else (none)) else (none)) = some (r1, r2, r3) := by first | (rw [hji48] at H; exact H) | (simp only [hji48] at H ⊢; exact H)
       (try rw [hji48] at A42)
       (try rw [hji48] at A46)
       have hji48w : (IntKind.i64.wrap ((y408.length : Int) - 1)) = ji48 := (i64_w _).trans hji48
       replace H := iD H
       rcases H with ⟨c49b0, H⟩ | ⟨c49b0, H⟩
       ·by_cases c50 : (ji48) < (y408.length : Int)
        ·rw [if_pos c50] at H
         have c50b0 := decide_eq_true c50
         clear c50
         by_cases c51 : ((rd_T43 y408 (ji48)).f3).length < 3518437208883
         ·rw [if_pos c51] at H
          have LMc51 := Aside0.mk c51
          clear c51
          obtain ⟨y412, hy412⟩ : ∃ y_ : List (S45), y_ = (((rd_T43 y408 (ji48)).f3) ++ [(⟨a2, a3_1, a3_2, a3_3⟩ : S45)]) := ⟨_, rfl⟩
          replace H : ((some (y408.set ((ji48) : Int).toNat (⟨(rd_T43 y408 (ji48)).f0, (rd_T43 y408 (ji48)).f1, (rd_T43 y408 (ji48)).f2, y412⟩ : S43) : List (S43))).bind fun y415 => (some ((y415.set ((ji48) : Int).toNat (⟨(rd_T43 y415 (ji48)).f0, (rd_T43 y415 (ji48)).f1, wrap64 (a2 + 1), (rd_T43 y415 (ji48)).f3⟩ : S43)), ji48, 0))) = some (r1, r2, r3) := by first | (rw [hy412]; with_reducible exact H) | (have H2_ := (Option.bind_some _ _).symm.trans H; rw [hy412]; with_reducible exact H2_) | (have H2_ := (Option.bind_some _ _).symm.trans H; with_reducible exact H2_) | with_reducible exact H | (rw [hy412]; exact H) | exact H
          have Ny412 := Aside0.mk hy412
          clear hy412
          obtain ⟨y415, hy415⟩ : ∃ y_ : List (S43), y_ = (y408.set ((ji48) : Int).toNat (⟨(rd_T43 y408 (ji48)).f0, (rd_T43 y408 (ji48)).f1, (rd_T43 y408 (ji48)).f2, y412⟩ : S43)) := ⟨_, rfl⟩
          replace H : (some ((y415.set ((ji48) : Int).toNat (⟨(rd_T43 y415 (ji48)).f0, (rd_T43 y415 (ji48)).f1, wrap64 (a2 + 1), (rd_T43 y415 (ji48)).f3⟩ : S43)), ji48, 0)) = some (r1, r2, r3) := by first | (rw [hy415]; with_reducible exact H) | (have H2_ := (Option.bind_some _ _).symm.trans H; rw [hy415]; with_reducible exact H2_) | (have H2_ := (Option.bind_some _ _).symm.trans H; with_reducible exact H2_) | with_reducible exact H | (rw [hy415]; exact H) | exact H
          have Ny415 := Aside0.mk hy415
          clear hy415
          obtain ⟨y416, hy416⟩ : ∃ y_ : List (S43), y_ = (y415.set ((ji48) : Int).toNat (⟨(rd_T43 y415 (ji48)).f0, (rd_T43 y415 (ji48)).f1, wrap64 (a2 + 1), (rd_T43 y415 (ji48)).f3⟩ : S43)) := ⟨_, rfl⟩
          replace H : (some (y416, ji48, 0)) = some (r1, r2, r3) := by first | (rw [hy416]; with_reducible exact H) | (have H2_ := (Option.bind_some _ _).symm.trans H; rw [hy416]; with_reducible exact H2_) | (have H2_ := (Option.bind_some _ _).symm.trans H; with_reducible exact H2_) | with_reducible exact H | (rw [hy416]; exact H) | exact H
          have Ny416 := Aside0.mk hy416
          clear hy416
          simp only [Option.some.injEq, Prod.mk.injEq] at H
          obtain ⟨rfl, rfl, rfl⟩ := H
          try go_wp2_with (first | ((with_reducible refine gc 50 rfl ?_); refine gl (some 62) #[.slice A0 l0.length c0] Tryd.func50 ?_; (with_reducible refine (tree_Tree_Copy.calls _ _ l0 t400 _ ?side1 ?side2 A42.out).mono ?_); (case side1 => exact qC); (case side2 => exact HC0.out); rintro e w54 ⟨v401, rfl, ho0, hb⟩; refine ⟨_, rfl, ?_⟩; have HO402 := Aside0.mk (Kd.S_lower (Kd.S_newB ho0 (g := gb380) (o := .cells #[.int .i64 a2, .int .i64 a3_1, .string a3_2, .int .i64 a3_3] 45 (0, 0)) qK) (below_size qB)); replace BK380 := kb gb380 hb; replace HB := bst hb; (try clear hb); (try clear ho0); have p403 : 0 ≤ (a1 : Int) := qD; have q403 : a1 < (l0.length : Int) := qD; obtain ⟨ad403, A403_3, c403_3, e403, hx403_0, hx403_1, hx403_2, hx403_3, hl403_3, hi403_3⟩ := at_T43 HR0.out a1 p403 q403; cases e403; replace hx403_0 := pw_cell_below HB.out hx403_0; replace hx403_1 := pw_cell_below HB.out hx403_1; replace hx403_2 := pw_cell_below HB.out hx403_2; replace hx403_3 := pw_cell_below HB.out hx403_3; have HR403_3 := Aside0.mk hi403_3; have HC403_3 := Aside0.mk hl403_3; clear hi403_3 hl403_3; replace p403 := eq_true p403; replace q403 := eq_true q403; have p404 : 0 ≤ (a1 : Int) := qD; have q404 : a1 < (l0.length : Int) := qD; obtain ⟨ad404, A404_3, c404_3, e404, hx404_0, hx404_1, hx404_2, hx404_3, hl404_3, hi404_3⟩ := at_T43 HR0.out a1 p404 q404; obtain rfl : ad403 = ad404 := (by injection e404); replace hx404_0 := pw_cell_below HB.out hx404_0; replace hx404_1 := pw_cell_below HB.out hx404_1; replace hx404_2 := pw_cell_below HB.out hx404_2; replace hx404_3 := pw_cell_below HB.out hx404_3; have HR404_3 := Aside0.mk hi404_3; have HC404_3 := Aside0.mk hl404_3; clear hi404_3 hl404_3; replace p404 := eq_true p404; replace q404 := eq_true q404; have ea_ := Option.some.inj (hx403_3.symm.trans hx404_3); injection ea_ with ea_ en_ ec_; subst ea_; subst ec_; clear en_) | ((with_reducible refine gc 81 rfl ?_); refine gl (some 78) #[.agg #[.int .i64 ((rd_T43 l0 a1).f0), .int .i64 ((rd_T43 l0 a1).f1), .int .i64 ((rd_T43 l0 a1).f2), .slice A403_3 ((rd_T43 l0 a1).f3).length c403_3], .int .i64 a2] Tryd.func81 ?_; (with_reducible refine (tree_Branch_ahead.calls kj4 ((rd_T43 l0 a1).f0) ((rd_T43 l0 a1).f1) ((rd_T43 l0 a1).f2) _ _ ((rd_T43 l0 a1).f3) a2 t405 _ ?side1 ?side2 A46.out).mono ?_); (case side1 => exact qC); (case side2 => exact HC404_3.out); rintro e w55 ⟨v406, rfl, ho0, hb⟩; refine ⟨_, rfl, ?_⟩; have n0_ := Aside0.mk (Kd.S_elder' (by (with_reducible repeat (first | apply Kd.S_alloc | apply Kd.S_drewN | apply Kd.S_drew)); exact HO402.out) (Kd.R_base ho0) hb); have n1_ := Aside0.mk (Kd.R_lower (Kd.R_newB ho0 (g := gb380) (o := .cells #[.int .i64 a2, .int .i64 a3_1, .string a3_2, .int .i64 a3_3] 45 (0, 0)) qK) (below_size qB)); have n2_ := kb gb380 hb; have n3_ := bst hb; clear HO402; clear BK380; clear HB; have HO402 := n0_; have HO407 := n1_; have BK380 := n2_; have HB := n3_; clear n0_ n1_ n2_ n3_; (try clear hb); (try clear ho0); obtain ⟨Ao56, co56, eo56⟩ := Kd.R_slice HO407.out; subst eo56) | ((with_reducible refine gate_builtin (b := .append) (xs := #[.tmp 70, .tmp 80]) rfl ?_); (try (refine gate_guard (by rfl) ?_; dsimp only)); at_builtin; refine Kd.S_append k43 (w0 := w) w.heap.size rfl (.tmp 70) (.tmp 80) 40 43 (.agg #[(.int .i64 0), (.int .i64 0), (.int .i64 0), (.slice none 0 0)]) 48 rfl Tryd.underlying40 info43 rfl (by decide) (by omega) v401 t400 (⟨a1, a2, 0, t405⟩ : S43) [.int .i64 a1, .int .i64 a2, .int .i64 0, .slice Ao56 t405.length co56] (fun k_ => k_ ≠ gb380) (fun k_ => some k_ = (.slice Ao56 t405.length co56 : Value).ownBlock) rfl rfl ?aP (fun k_ hk_ => ((Kd.R_mono (ok' := fun k_ => ((fun k_ => k_ ≠ gb380)) k_ ∧ some k_ ≠ (v401 : Value).ownBlock) (Kd.R_apart' (HO407.out) (Kd.S_typed HO402.out) (by decide)) (fun k_ hk => ⟨hk.1.2, hk.2⟩))).1 k_ hk_.symm) ?aF ?aO ?aB ?aS ?aL ?_; (case aP => exact k43_mkM _ _ _ (⟨a1, a2, 0, t405⟩ : S43) (Kd.R_mono (Kd.R_tight rfl (Kd.R_mono (ok' := fun k_ => ((fun k_ => k_ ≠ gb380)) k_ ∧ some k_ ≠ (v401 : Value).ownBlock) (Kd.R_apart' (HO407.out) (Kd.S_typed HO402.out) (by decide)) (fun k_ hk => ⟨hk.1.2, hk.2⟩))) (fun _ h_ => h_))); (case aB => exact qB); (case aF => exact (fun k_ hk => Kd.freshB (g := gb380) (o := .cells #[.int .i64 a2, .int .i64 a3_1, .string a3_2, .int .i64 a3_3] 45 (0, 0)) qK k_ hk)); (case aO => exact (by (with_reducible repeat (first | apply Kd.S_alloc | apply Kd.S_drewN | apply Kd.S_drew)); exact Kd.S_mono HO402.out (fun k_ hk => ⟨hk.1.2, fun e_ => hk.2 e_⟩))); (case aS => exact (below_size qB)); (case aL => have := LMc47.out; omega); intro v409 w57 ho hb hg hat; rw [← Ny408.out] at ho; have n0_ := Aside0.mk (blk_grown (g := gb380) (o := .cells #[.int .i64 a2, .int .i64 a3_1, .string a3_2, .int .i64 a3_3] 45 (0, 0)) qK hg (Kd.S_ne HO402.out BK380.out (by decide))); have n1_ := Aside0.mk (hb); have n2_ := Aside0.mk (ho); clear BK380; clear HB; clear HO402; clear HO407; have BK380 := n0_; have HB := n1_; have HO410 := n2_; clear n0_ n1_ n2_; clear ho hb hg hat; obtain ⟨Ao58, co58, eo58⟩ := Kd.S_slice HO410.out; subst eo58))
          have n0_ := Aside0.mk (Kd.S_drew HO410.out)
          have n1_ := Aside0.mk (blk_drew BK380.out)
          have n2_ := Aside0.mk (below_drew1 HB.out)
          clear HO410
          clear BK380
          clear HB
          have HO410 := n0_
          have BK380 := n1_
          have HB := n2_
          clear n0_ n1_ n2_
          have p411 : 0 ≤ ((ji48) : Int) := qD
          have q411 : (ji48) < (y408.length : Int) := qD
          obtain ⟨ad411, A411_3, c411_3, e411, hx411_0, hx411_1, hx411_2, hx411_3, hl411_3, hi411_3⟩ := at_T43 (Kd.S_reads' HO410.out).2.2 (ji48) p411 q411
          cases e411
          obtain ⟨ce411, hce411, hMe411, hcc411⟩ := Kd.S_get HO410.out z43 (ji48) p411 (by first | exact q411 | exact qD | (have e_ := (Kd.S_reads' HO410.out).1; omega))
          obtain ⟨ve411_3, rfl, ge411_3⟩ := k43_openM hMe411
          have hv411_3 := hcc411 3 _ rfl
          rw [add_field _ _ 3 (by omega)] at hv411_3
          replace hv411_3 := Option.some.inj (hv411_3.symm.trans hx411_3)
          rw [hv411_3] at ge411_3
          have HL411_3 := Aside0.mk (show Kd.R k45 45 _ _ _ _ ((rd_T43 y408 (ji48)).f3) from ge411_3)
          clear hv411_3 ge411_3
          have HX411_3 := Aside0.mk hx411_3
          clear hcc411 hce411
          have HR411_3 := Aside0.mk hi411_3
          have HC411_3 := Aside0.mk hl411_3
          clear hi411_3 hl411_3
          replace p411 := eq_true p411
          replace q411 := eq_true q411
          obtain ⟨go60, co60, eo60, gb60, gl60, cl60, HG60⟩ := Kd.S_form HO410.out (by have h_ : ((ji48) : Int) < ((y408.length : Int) : Int) := qD; have h2_ : 0 ≤ ((ji48) : Int) := (qD); omega)
          (first | cases eo60 | (injection eo60 with ea_ en_ ec_; (first | subst ea_ | (injection ea_ with ea_; subst ea_)); subst ec_; clear en_))
          have GB60 := Aside0.mk gb60
          have GG60 := Aside0.mk HG60
          clear gb60 gl60 HG60
          (first | simp only [add_plain] at hx411_0 | skip)
          (first | simp only [add_plain] at hx411_1 | skip)
          (first | simp only [add_plain] at hx411_2 | skip)
          (first | simp only [add_plain] at hx411_3 | skip)
          obtain ⟨oki60, ce60, hcl60, hM60, hcc60, _, _, hH60⟩ := Kd.S_elem HO410.out z43 ((ji48) : Int) (qD) (by have h_ : ((ji48) : Int) < ((y408.length : Int) : Int) := qD; first | exact h_ | (have e_ := (Kd.S_reads' HO410.out).1; omega) | simpa using h_)
          obtain ⟨ve60_3, rfl, ge60_3⟩ := k43_openM hM60
          have hv60 := hcc60 3 _ rfl
          have hX60 := HX411_3.out
          (try simp only [add_plain] at hX60)
          (try simp only [Nat.add_zero] at hv60)
          replace hv60 := Option.some.inj (hv60.symm.trans hX60)
          subst hv60
          clear hX60 hcc60 hcl60
          have UU60 := Aside0.mk (show Kd.R k45 45 _ w.heap.size oki60 (.slice A411_3 ((rd_T43 y408 (ji48)).f3).length c411_3) ((rd_T43 y408 (ji48)).f3) from ge60_3)
          have HH60 := Aside0.mk hH60
          have HN60 := Aside0.mk (Kd.S_reads' HO410.out).1
          clear hH60 ge60_3
          refine start_ (n := 13) (S := fun w' => w'.cell? ⟨gb380, 0, none⟩ = some (.int .i64 a2) ∧ w'.cell? ⟨gb380, 1, none⟩ = some (.int .i64 a3_1) ∧ w'.cell? ⟨gb380, 2, none⟩ = some (.string a3_2) ∧ w'.cell? ⟨gb380, 3, none⟩ = some (.int .i64 a3_3) ∧ w'.cell? ⟨go60, ((ji48)).toNat * 4, none⟩ = some (.int .i64 ((rd_T43 y408 (ji48)).f0)) ∧ w'.cell? ⟨go60, ((ji48)).toNat * 4 + 1, none⟩ = some (.int .i64 ((rd_T43 y408 (ji48)).f1)) ∧ w'.cell? ⟨go60, ((ji48)).toNat * 4 + 2, none⟩ = some (.int .i64 ((rd_T43 y408 (ji48)).f2)) ∧ w'.cell? ⟨go60, ((ji48)).toNat * 4 + 3, none⟩ = some (.slice A411_3 ((rd_T43 y408 (ji48)).f3).length c411_3)) (ds := [12]) _ (by kernel_rfl) rfl (fls 13) ⟨(blk_cell BK380.out 0).trans rfl, (blk_cell BK380.out 1).trans rfl, (blk_cell BK380.out 2).trans rfl, (blk_cell BK380.out 3).trans rfl, hx411_0, hx411_1, hx411_2, hx411_3⟩ (fun hHeld => ?_); refine with_tabW tree_Tree_Put.tab16 tree_Tree_Put.bits16 (fun HT_ HW_ => ?_)
          generalize w57.drew = w59 at HO410 BK380 HB GG60 HH60 HL411_3 HR411_3 HX411_3 UU60 hx411_0 hx411_1 hx411_2 hx411_3 hHeld ⊢
          refine pu 0 85 ?_; refine pu 1 86 ?_
          refine pu 2 87 ?_; refine pu 3 88 ?_
          refine pu 4 89 ?_; refine pu 5 90 ?_
          refine tk 6 91 ?_; refine tk 7 92 ?_
          refine onx 8 93 (fun K hK => ?_)
          refine value_ (w1 := ?_) (v := ?_) (by rfl) rfl ?_ ?_
          rotate_left 2
          ·go_simp
           constructor
           ·rfl
           ·rfl
          refine hK.out _ _ ⟨(blk_cell (blk_alloc BK380.out _) 0).trans rfl, (blk_cell (blk_alloc BK380.out _) 1).trans rfl, (blk_cell (blk_alloc BK380.out _) 2).trans rfl, (blk_cell (blk_alloc BK380.out _) 3).trans rfl, (World.cell?_alloc_lt _ _ _ (World.block_lt_of_cell? _ _ (hHeld.2.2.2.2.1))).trans (hHeld.2.2.2.2.1), (World.cell?_alloc_lt _ _ _ (World.block_lt_of_cell? _ _ (hHeld.2.2.2.2.2.1))).trans (hHeld.2.2.2.2.2.1), (World.cell?_alloc_lt _ _ _ (World.block_lt_of_cell? _ _ (hHeld.2.2.2.2.2.2.1))).trans (hHeld.2.2.2.2.2.2.1), (World.cell?_alloc_lt _ _ _ (World.block_lt_of_cell? _ _ (hHeld.2.2.2.2.2.2.2))).trans (hHeld.2.2.2.2.2.2.2)⟩ (fun hHeld => ?_)
          clear hK K
          refine nm 93 ?_
          refine onx 9 94 (fun K hK => ?_)
          refine Kd.R_append_step k45 (w0 := w) w.heap.size (by rfl) (.tmp 91) (.tmp 93) 41 45 (.agg #[(.int .i64 0), (.int .i64 0), (.string ⟨#[]⟩), (.int .i64 0)]) 40 rfl Tryd.underlying41 info45 rfl (by decide) (by omega) (.slice A411_3 ((rd_T43 y408 (ji48)).f3).length c411_3) ((rd_T43 y408 (ji48)).f3) (⟨a2, a3_1, a3_2, a3_3⟩ : S45) [.int .i64 a2, .int .i64 a3_1, .string a3_2, .int .i64 a3_3] (fun k_ => oki60 k_ ∨ ((fun k_ => k_ ≠ gb380)) k_ ∧ w59.heap.size ≤ k_) (fun _ => False) rfl rfl ?aP (fun _ hk => hk.elim) ?aF ?aO ?aB ?aS ?aL ?_
          (case aP => exact k45_mkM _ _ _ (⟨a2, a3_1, a3_2, a3_3⟩ : S45))
          (case aB => exact qB)
          (case aF => exact (fun k_ hk => .inr ⟨Kd.freshB (g := gb380) (o := .cells #[.int .i64 a2, .int .i64 a3_1, .string a3_2, .int .i64 a3_3] 45 (0, 0)) qK k_ hk, hk⟩))
          (case aO => exact (by (with_reducible repeat (first | apply Kd.R_alloc | apply Kd.R_drewN | apply Kd.R_drew)); exact Kd.R_mono UU60.out (fun _ hk => .inl hk)))
          (case aS => exact (below_size qB))
          (case aL => have := LMc51.out; omega)
          intro v413 w61 ho hb hg hat
          (first | have HS4_ := cell_grown hg (hHeld.2.2.2.2.1) (by first | (rw [add_block]; exact (fun e_ => ((HL411_3.out.1 _ e_.symm).2) rfl)) | (show some (Addr.add _ _).block ≠ _; rw [add_block]; exact (fun e_ => ((HL411_3.out.1 _ e_.symm).2) rfl)) | exact (fun e_ => ((HL411_3.out.1 _ e_.symm).2) rfl)) | have HS4_ := cell_grown hg (cell_unalloc (hHeld.2.2.2.2.1) (by first | (rw [add_block]; exact Kd.S_lt HO410.out _ rfl) | (show (Addr.add _ _).block < _; rw [add_block]; exact Kd.S_lt HO410.out _ rfl) | exact Kd.S_lt HO410.out _ rfl)) (by first | (rw [add_block]; exact (fun e_ => ((HL411_3.out.1 _ e_.symm).2) rfl)) | (show some (Addr.add _ _).block ≠ _; rw [add_block]; exact (fun e_ => ((HL411_3.out.1 _ e_.symm).2) rfl)) | exact (fun e_ => ((HL411_3.out.1 _ e_.symm).2) rfl)))
          (first | have HS5_ := cell_grown hg (hHeld.2.2.2.2.2.1) (by first | (rw [add_block]; exact (fun e_ => ((HL411_3.out.1 _ e_.symm).2) rfl)) | (show some (Addr.add _ _).block ≠ _; rw [add_block]; exact (fun e_ => ((HL411_3.out.1 _ e_.symm).2) rfl)) | exact (fun e_ => ((HL411_3.out.1 _ e_.symm).2) rfl)) | have HS5_ := cell_grown hg (cell_unalloc (hHeld.2.2.2.2.2.1) (by first | (rw [add_block]; exact Kd.S_lt HO410.out _ rfl) | (show (Addr.add _ _).block < _; rw [add_block]; exact Kd.S_lt HO410.out _ rfl) | exact Kd.S_lt HO410.out _ rfl)) (by first | (rw [add_block]; exact (fun e_ => ((HL411_3.out.1 _ e_.symm).2) rfl)) | (show some (Addr.add _ _).block ≠ _; rw [add_block]; exact (fun e_ => ((HL411_3.out.1 _ e_.symm).2) rfl)) | exact (fun e_ => ((HL411_3.out.1 _ e_.symm).2) rfl)))
          (first | have HS6_ := cell_grown hg (hHeld.2.2.2.2.2.2.1) (by first | (rw [add_block]; exact (fun e_ => ((HL411_3.out.1 _ e_.symm).2) rfl)) | (show some (Addr.add _ _).block ≠ _; rw [add_block]; exact (fun e_ => ((HL411_3.out.1 _ e_.symm).2) rfl)) | exact (fun e_ => ((HL411_3.out.1 _ e_.symm).2) rfl)) | have HS6_ := cell_grown hg (cell_unalloc (hHeld.2.2.2.2.2.2.1) (by first | (rw [add_block]; exact Kd.S_lt HO410.out _ rfl) | (show (Addr.add _ _).block < _; rw [add_block]; exact Kd.S_lt HO410.out _ rfl) | exact Kd.S_lt HO410.out _ rfl)) (by first | (rw [add_block]; exact (fun e_ => ((HL411_3.out.1 _ e_.symm).2) rfl)) | (show some (Addr.add _ _).block ≠ _; rw [add_block]; exact (fun e_ => ((HL411_3.out.1 _ e_.symm).2) rfl)) | exact (fun e_ => ((HL411_3.out.1 _ e_.symm).2) rfl)))
          (first | have HS7_ := cell_grown hg (hHeld.2.2.2.2.2.2.2) (by first | (rw [add_block]; exact (fun e_ => ((HL411_3.out.1 _ e_.symm).2) rfl)) | (show some (Addr.add _ _).block ≠ _; rw [add_block]; exact (fun e_ => ((HL411_3.out.1 _ e_.symm).2) rfl)) | exact (fun e_ => ((HL411_3.out.1 _ e_.symm).2) rfl)) | have HS7_ := cell_grown hg (cell_unalloc (hHeld.2.2.2.2.2.2.2) (by first | (rw [add_block]; exact Kd.S_lt HO410.out _ rfl) | (show (Addr.add _ _).block < _; rw [add_block]; exact Kd.S_lt HO410.out _ rfl) | exact Kd.S_lt HO410.out _ rfl)) (by first | (rw [add_block]; exact (fun e_ => ((HL411_3.out.1 _ e_.symm).2) rfl)) | (show some (Addr.add _ _).block ≠ _; rw [add_block]; exact (fun e_ => ((HL411_3.out.1 _ e_.symm).2) rfl)) | exact (fun e_ => ((HL411_3.out.1 _ e_.symm).2) rfl)))
          rw [← Ny412.out] at ho
          have n0_ := Aside0.mk (blk_grown (g := gb380) (o := .cells #[.int .i64 a2, .int .i64 a3_1, .string a3_2, .int .i64 a3_3] 45 (0, 0)) qK hg (Kd.R_away HL411_3.out (fun _ hk => hk.1)))
          have n1_ := Aside0.mk (hb)
          have n2_ := Aside0.mk (Kd.H_grown (Kd.H_widen (by repeat (first | exact HH60.out | refine Kd.H_alloc ?_ _ | refine Kd.H_drewN ?_ _ | refine Kd.H_drew ?_))) hg (fun k_ e_ => .inl (UU60.out.1 k_ e_)))
          have n3_ := Aside0.mk (ho)
          clear BK380
          clear HB
          clear HH60
          clear HO410
          clear UU60
          clear HL411_3
          have BK380 := n0_
          have HB := n1_
          have HH60 := n2_
          have HO414 := n3_
          clear n0_ n1_ n2_ n3_
          clear ho hb hg hat
          have p52 : 0 ≤ ((ji48) : Int) := qD
          have q52 : ((ji48) : Int) < ((y408.length : Int) : Int) := qD
          replace p52 := eq_true p52
          replace q52 := eq_true q52
          obtain ⟨Ao64, co64, eo64⟩ := Kd.R_slice HO414.out
          (first | subst eo64 | (injection eo64 with f1_ f2_ f3_; have f4_ := f1_.symm; have f5_ := f3_.symm; clear f1_ f2_ f3_; subst f4_; subst f5_))
          obtain ⟨_, _, hraw62, _, _, hcc62, _⟩ := Kd.H_raw HH60.out (qD) (by have h_ : ((ji48) : Int) < ((y408.length : Int) : Int) := qD; first | exact h_ | (have e_ := (HN60.out); omega) | simpa using h_)
          obtain ⟨_, hfr62⟩ := Kd.H_at HH60.out (qD) (by have h_ : ((ji48) : Int) < ((y408.length : Int) : Int) := qD; first | exact h_ | (have e_ := (HN60.out); omega) | simpa using h_)
          have hx62_0 := hcc62 3 _ rfl
          have hf62_0 := hfr62 3
          (try rw [show (k43).sz = 4 from rfl] at hx62_0)
          (try rw [show (k43).sz = 4 from rfl] at hf62_0)
          have HP62 := Kd.S_seg0 HH60.out (qD) (by have h_ : ((ji48) : Int) < ((y408.length : Int) : Int) := qD; first | exact h_ | (have e_ := (HN60.out); omega) | simpa using h_) (seg := [.slice Ao64 y412.length co64]) (j := 3) (show 4 ≤ 4 from by decide) (x' := (⟨(rd_T43 y408 (ji48)).f0, (rd_T43 y408 (ji48)).f1, (rd_T43 y408 (ji48)).f2, y412⟩ : S43)) (k43_mkM _ _ _ (⟨(rd_T43 y408 (ji48)).f0, (rd_T43 y408 (ji48)).f1, (rd_T43 y408 (ji48)).f2, y412⟩ : S43) HO414.out) (fun _ hk => hk)
          clear hcc62 hfr62
          have HNB380_go60 := Aside0.mk (show gb380 ≠ go60 from by have h_ := Kd.R_ne hraw62 BK380.out (by decide); intro e_; exact h_ (by rw [e_]; rfl))
          have HS62 := HP62.1
          rw [← Ny415.out] at HS62
          have HQ62 := Aside0.mk HS62
          obtain ⟨_, hgg62⟩ := Kd.R_typed hraw62 go60 rfl
          have GG62_ := Aside0.mk hgg62
          clear HP62 HS62 hgg62
          refine hK.out _ _ ⟨(blk_cell BK380.out 0).trans rfl, (blk_cell BK380.out 1).trans rfl, (blk_cell BK380.out 2).trans rfl, (blk_cell BK380.out 3).trans rfl, HS4_, HS5_, HS6_, HS7_⟩ (fun hHeld => ?_)
          clear hK K
          refine nm 94 ?_
          refine pu 10 95 ?_; refine pu 11 96 ?_
          refine last_ (i := 12) (N := none) #[true, true, true, true, true, true, true, true, true, true, true, true, true] rfl rfl (one_of HT_.out (by kernel_rfl)) (by decide) (fun K hK => ?_)
          refine skip_ (w1 := ?_) (by rfl) rfl ?_ ?_
          rotate_left
          ·go_simp
           rfl
          refine hK.out _ _ ?_
          clear hK K
          refine done_ (done_of HT_.out (by kernel_rfl)) ?_
          have n0_ : Aside0 (Kd.S k43 43 (w61.setCell ⟨go60, ((ji48) : Int).toNat * 4 + 3, none⟩ (.slice Ao64 y412.length co64)) w.heap.size (fun k_ => k_ ≠ gb380) (.slice (some ⟨go60, 0, none⟩) y408.length co58) y415) := ⟨by (with_reducible repeat (first | apply Kd.S_alloc | apply Kd.S_drewN | apply Kd.S_drew)); exact HQ62.out⟩
          have n1_ : Aside0 ((w61.setCell ⟨go60, ((ji48) : Int).toNat * 4 + 3, none⟩ (.slice Ao64 y412.length co64)).heap[gb380]? = some (.cells #[.int .i64 a2, .int .i64 a3_1, .string a3_2, .int .i64 a3_3] 45 (0, 0))) := ⟨qK⟩
          have n2_ : Aside0 (Below w.heap.size w (w61.setCell ⟨go60, ((ji48) : Int).toNat * 4 + 3, none⟩ (.slice Ao64 y412.length co64))) := ⟨qB⟩
          (try clear HO410)
          (try clear BK380)
          (try clear HB)
          generalize (w61.setCell ⟨go60, ((ji48) : Int).toNat * 4 + 3, none⟩ (.slice Ao64 y412.length co64)) = w65 at n0_ n1_ n2_ ⊢
          have HO410 := n0_
          have BK380 := n1_
          have HB := n2_
          clear n0_ n1_ n2_
          have p53 : 0 ≤ ((ji48) : Int) := qD
          have q53 : ((ji48) : Int) < ((y408.length : Int) : Int) := qD
          obtain ⟨_, ce53, hcl53, hM53, hcc53, hfr53, _, _⟩ := Kd.S_elem HO410.out z43 ((ji48) : Int) p53 q53
          obtain ⟨ve53_3, rfl, ge53_3⟩ := k43_openM hM53
          have hx53_0 : w65.cell? ⟨go60, ((ji48) : Int).toNat * 4, none⟩ = some (.int .i64 ((rd_T43 y415 (ji48)).f0)) := hcc53 0 _ rfl
          have hx53_1 : w65.cell? ⟨go60, ((ji48) : Int).toNat * 4 + 1, none⟩ = some (.int .i64 ((rd_T43 y415 (ji48)).f1)) := hcc53 1 _ rfl
          have hx53_2 : w65.cell? ⟨go60, ((ji48) : Int).toNat * 4 + 2, none⟩ = some (.int .i64 ((rd_T43 y415 (ji48)).f2)) := hcc53 2 _ rfl
          have hx53_3 : w65.cell? ⟨go60, ((ji48) : Int).toNat * 4 + 3, none⟩ = some (ve53_3) := hcc53 3 _ rfl
          have hf53_0 : w65.frozen? ⟨go60, ((ji48) : Int).toNat * 4, none⟩ = false := hfr53 0
          have hf53_1 : w65.frozen? ⟨go60, ((ji48) : Int).toNat * 4 + 1, none⟩ = false := hfr53 1
          have hf53_2 : w65.frozen? ⟨go60, ((ji48) : Int).toNat * 4 + 2, none⟩ = false := hfr53 2
          have hf53_3 : w65.frozen? ⟨go60, ((ji48) : Int).toNat * 4 + 3, none⟩ = false := hfr53 3
          clear hcl53 hcc53 hfr53 hM53
          replace p53 := eq_true p53
          replace q53 := eq_true q53
          have HX66 := Aside0.mk (show Kd.S k43 43 w65 w.heap.size (fun k_ => ((fun k_ => k_ ≠ gb380)) k_ ∧ ¬ ((fun _ => False)) k_) (.slice (some ⟨go60, 0, none⟩) y408.length co58) y415 from (by (with_reducible repeat (first | apply Kd.S_alloc | apply Kd.S_drewN | apply Kd.S_drew)); exact Kd.S_mono HO410.out (fun k_ hk => ⟨hk, fun e_ => e_⟩)))
          obtain ⟨oki66, ce66, hcl66, hM66, hcc66, hfr66, hoki66, hH66⟩ := Kd.S_elem HX66.out z43 ((ji48) : Int) (qD) (by have h_ : ((ji48) : Int) < ((y408.length : Int) : Int) := qD; first | exact h_ | (have e_ := (Kd.S_reads' HO410.out).1; omega) | simpa using h_)
          obtain ⟨ve66_3, rfl, ge66_3⟩ := k43_openM hM66
          have HP66 := Kd.S_seg hH66 (qD) (by have h_ : ((ji48) : Int) < ((y408.length : Int) : Int) := qD; first | exact h_ | (have e_ := (Kd.S_reads' HO410.out).1; omega) | simpa using h_) (seg := [.int .i64 (wrap64 (a2 + 1))]) (j := 2) (show 3 ≤ 4 from by decide) (x' := (⟨(rd_T43 y415 (ji48)).f0, (rd_T43 y415 (ji48)).f1, wrap64 (a2 + 1), (rd_T43 y415 (ji48)).f3⟩ : S43)) (k43_mkM _ _ _ (⟨(rd_T43 y415 (ji48)).f0, (rd_T43 y415 (ji48)).f1, wrap64 (a2 + 1), (rd_T43 y415 (ji48)).f3⟩ : S43) (Kd.R_mono ge66_3 (fun _ h_ => Or.inl h_))) (fun _ hk => hk) (fun k_ hk_ => hk_.elim)
          have hx66_2 := hcc66 2 _ rfl
          (try simp only [show (k43).sz = 4 from rfl, Nat.mul_one, Nat.add_zero] at hx66_2)
          have hf66_2 := hfr66 2
          (try simp only [show (k43).sz = 4 from rfl, Nat.mul_one, Nat.add_zero] at hf66_2)
          clear hcl66 hcc66 hfr66 hM66 hoki66 hH66
          try go_wp2_with (first | ((with_reducible refine gate_store (t := 3) (p := 102) rfl ?_); refine store_event (t := 3) (p := 102) (v := ?vo_w67) (w1 := (w65.setCell ⟨go60, ((ji48) : Int).toNat * 4 + 2, none⟩ (.int .i64 (wrap64 (a2 + 1))))) ?hg ?ho ?hn ?hr ?_; (case ho => rfl); (case hg => rfl); (case hn => rfl); (case hr => first | (go_simp; done) | (go_simp; rfl)); intro w67 hw; have hg : w65.grownBy w67 (some go60) := (by rw [hw]; exact HP66.2); have hp_ : Kd.S k43 43 w67 w.heap.size (fun k_ => k_ ≠ gb380) (.slice (some ⟨go60, 0, none⟩) y408.length co58) y416 := (by rw [hw, Ny416.out]; exact HP66.1); clear HP66; have n0_ := Aside0.mk (blk_grown (g := gb380) (o := .cells #[.int .i64 a2, .int .i64 a3_1, .string a3_2, .int .i64 a3_3] 45 (0, 0)) qK hg (Kd.S_ne HO410.out BK380.out (by decide))); have n1_ := Aside0.mk (hp_); have n2_ := Aside0.mk ((by rw [hw]; exact below_set (HB.out) GB60.out : Below w.heap.size w w67)); clear BK380; clear HO410; clear HB; have BK380 := n0_; have HO410 := n1_; have HB := n2_; clear n0_ n1_ n2_; clear hg hw hp_))
          go_ret3
          exact ⟨_, by first | rfl | (simp [errW_none, errW_some] <;> rfl) | (simp only [← hji48]; first | rfl | (simp [errW_none, errW_some] <;> rfl)) | (simp [*, errW_none, errW_some] <;> rfl), by (with_reducible repeat (first | apply Kd.S_alloc | apply Kd.S_drewN | apply Kd.S_drew)); exact Kd.S_mono HO410.out (fun _ hk => trivial), qB⟩
         ·rw [if_neg c51] at H
          exact absurd H (by simp)
        ·rw [if_neg c50] at H
         exact absurd H (by simp)
       ·exact absurd H (by simp)
      ·rw [if_neg c47] at H
       exact absurd H (by simp)
     ·by_cases c68 : a1 < (t400.length : Int)
      ·rw [if_pos c68] at H
       have c68b0 := decide_eq_true c68
       clear c68
       by_cases c69 : ((rd_T43 t400 a1).f3).length < 3518437208883
       ·rw [if_pos c69] at H
        have LMc69 := Aside0.mk c69
        clear c69
        obtain ⟨y418, hy418⟩ : ∃ y_ : List (S45), y_ = (((rd_T43 t400 a1).f3) ++ [(⟨a2, a3_1, a3_2, a3_3⟩ : S45)]) := ⟨_, rfl⟩
        replace H : ((some (t400.set (a1 : Int).toNat (⟨(rd_T43 t400 a1).f0, (rd_T43 t400 a1).f1, (rd_T43 t400 a1).f2, y418⟩ : S43) : List (S43))).bind fun y421 => (some ((y421.set (a1 : Int).toNat (⟨(rd_T43 y421 a1).f0, (rd_T43 y421 a1).f1, wrap64 (a2 + 1), (rd_T43 y421 a1).f3⟩ : S43)), a1, 0))) = some (r1, r2, r3) := by first | (rw [hy418]; with_reducible exact H) | (have H2_ := (Option.bind_some _ _).symm.trans H; rw [hy418]; with_reducible exact H2_) | (have H2_ := (Option.bind_some _ _).symm.trans H; with_reducible exact H2_) | with_reducible exact H | (rw [hy418]; exact H) | exact H
        have Ny418 := Aside0.mk hy418
        clear hy418
        obtain ⟨y421, hy421⟩ : ∃ y_ : List (S43), y_ = (t400.set (a1 : Int).toNat (⟨(rd_T43 t400 a1).f0, (rd_T43 t400 a1).f1, (rd_T43 t400 a1).f2, y418⟩ : S43)) := ⟨_, rfl⟩
        replace H : (some ((y421.set (a1 : Int).toNat (⟨(rd_T43 y421 a1).f0, (rd_T43 y421 a1).f1, wrap64 (a2 + 1), (rd_T43 y421 a1).f3⟩ : S43)), a1, 0)) = some (r1, r2, r3) := by first | (rw [hy421]; with_reducible exact H) | (have H2_ := (Option.bind_some _ _).symm.trans H; rw [hy421]; with_reducible exact H2_) | (have H2_ := (Option.bind_some _ _).symm.trans H; with_reducible exact H2_) | with_reducible exact H | (rw [hy421]; exact H) | exact H
        have Ny421 := Aside0.mk hy421
        clear hy421
        obtain ⟨y422, hy422⟩ : ∃ y_ : List (S43), y_ = (y421.set (a1 : Int).toNat (⟨(rd_T43 y421 a1).f0, (rd_T43 y421 a1).f1, wrap64 (a2 + 1), (rd_T43 y421 a1).f3⟩ : S43)) := ⟨_, rfl⟩
        replace H : (some (y422, a1, 0)) = some (r1, r2, r3) := by first | (rw [hy422]; with_reducible exact H) | (have H2_ := (Option.bind_some _ _).symm.trans H; rw [hy422]; with_reducible exact H2_) | (have H2_ := (Option.bind_some _ _).symm.trans H; with_reducible exact H2_) | with_reducible exact H | (rw [hy422]; exact H) | exact H
        have Ny422 := Aside0.mk hy422
        clear hy422
        simp only [Option.some.injEq, Prod.mk.injEq] at H
        obtain ⟨rfl, rfl, rfl⟩ := H
        try go_wp2_with (first | ((with_reducible refine gc 50 rfl ?_); refine gl (some 62) #[.slice A0 l0.length c0] Tryd.func50 ?_; (with_reducible refine (tree_Tree_Copy.calls _ _ l0 t400 _ ?side1 ?side2 A42.out).mono ?_); (case side1 => exact qC); (case side2 => exact HC0.out); rintro e w72 ⟨v401, rfl, ho0, hb⟩; refine ⟨_, rfl, ?_⟩; have HO402 := Aside0.mk (Kd.S_lower (Kd.S_newB ho0 (g := gb380) (o := .cells #[.int .i64 a2, .int .i64 a3_1, .string a3_2, .int .i64 a3_3] 45 (0, 0)) qK) (below_size qB)); replace BK380 := kb gb380 hb; replace HB := bst hb; (try clear hb); (try clear ho0); have p403 : 0 ≤ (a1 : Int) := qD; have q403 : a1 < (l0.length : Int) := qD; obtain ⟨ad403, A403_3, c403_3, e403, hx403_0, hx403_1, hx403_2, hx403_3, hl403_3, hi403_3⟩ := at_T43 HR0.out a1 p403 q403; cases e403; replace hx403_0 := pw_cell_below HB.out hx403_0; replace hx403_1 := pw_cell_below HB.out hx403_1; replace hx403_2 := pw_cell_below HB.out hx403_2; replace hx403_3 := pw_cell_below HB.out hx403_3; have HR403_3 := Aside0.mk hi403_3; have HC403_3 := Aside0.mk hl403_3; clear hi403_3 hl403_3; replace p403 := eq_true p403; replace q403 := eq_true q403))
        replace BK380 := Aside0.mk (blk_drew BK380.out)
        replace HO402 := Aside0.mk (Kd.S_drew HO402.out)
        replace HB := Aside0.mk (below_drew1 HB.out)
        obtain ⟨Ao74, co74, eo74⟩ := Kd.S_slice HO402.out
        (first | subst eo74 | (injection eo74 with f1_ f2_ f3_; have f4_ := f1_.symm; have f5_ := f3_.symm; clear f1_ f2_ f3_; subst f4_; subst f5_))
        have p417 : 0 ≤ (a1 : Int) := qD
        have q417 : a1 < (t400.length : Int) := qD
        obtain ⟨ad417, A417_3, c417_3, e417, hx417_0, hx417_1, hx417_2, hx417_3, hl417_3, hi417_3⟩ := at_T43 (Kd.S_reads' HO402.out).2.2 a1 p417 q417
        cases e417
        obtain ⟨ce417, hce417, hMe417, hcc417⟩ := Kd.S_get HO402.out z43 a1 p417 (by first | exact q417 | exact qD | (have e_ := (Kd.S_reads' HO402.out).1; omega))
        obtain ⟨ve417_3, rfl, ge417_3⟩ := k43_openM hMe417
        have hv417_3 := hcc417 3 _ rfl
        rw [add_field _ _ 3 (by omega)] at hv417_3
        replace hv417_3 := Option.some.inj (hv417_3.symm.trans hx417_3)
        rw [hv417_3] at ge417_3
        have HL417_3 := Aside0.mk (show Kd.R k45 45 _ _ _ _ ((rd_T43 t400 a1).f3) from ge417_3)
        clear hv417_3 ge417_3
        have HX417_3 := Aside0.mk hx417_3
        clear hcc417 hce417
        have HR417_3 := Aside0.mk hi417_3
        have HC417_3 := Aside0.mk hl417_3
        clear hi417_3 hl417_3
        replace p417 := eq_true p417
        replace q417 := eq_true q417
        have n_ := Aside0.mk (Kd.S_mono (ok' := (fun k_ => k_ ≠ gb380)) HO402.out (fun k_ hk => hk.2))
        clear HO402
        have HO402 := n_
        clear n_
        obtain ⟨go75, co75, eo75, gb75, gl75, cl75, HG75⟩ := Kd.S_form HO402.out (by have h_ : (a1 : Int) < ((t400.length : Int) : Int) := qD; have h2_ : 0 ≤ (a1 : Int) := (qD); omega)
        (first | cases eo75 | (injection eo75 with ea_ en_ ec_; (first | subst ea_ | (injection ea_ with ea_; subst ea_)); subst ec_; clear en_))
        have GB75 := Aside0.mk gb75
        have GG75 := Aside0.mk HG75
        clear gb75 gl75 HG75
        (first | simp only [add_plain] at hx417_0 | skip)
        (first | simp only [add_plain] at hx417_1 | skip)
        (first | simp only [add_plain] at hx417_2 | skip)
        (first | simp only [add_plain] at hx417_3 | skip)
        obtain ⟨oki75, ce75, hcl75, hM75, hcc75, _, _, hH75⟩ := Kd.S_elem HO402.out z43 (a1 : Int) (qD) (by have h_ : (a1 : Int) < ((t400.length : Int) : Int) := qD; first | exact h_ | (have e_ := (Kd.S_reads' HO402.out).1; omega) | simpa using h_)
        obtain ⟨ve75_3, rfl, ge75_3⟩ := k43_openM hM75
        have hv75 := hcc75 3 _ rfl
        have hX75 := HX417_3.out
        (try simp only [add_plain] at hX75)
        (try simp only [Nat.add_zero] at hv75)
        replace hv75 := Option.some.inj (hv75.symm.trans hX75)
        subst hv75
        clear hX75 hcc75 hcl75
        have UU75 := Aside0.mk (show Kd.R k45 45 _ w.heap.size oki75 (.slice A417_3 ((rd_T43 t400 a1).f3).length c417_3) ((rd_T43 t400 a1).f3) from ge75_3)
        have HH75 := Aside0.mk hH75
        have HN75 := Aside0.mk (Kd.S_reads' HO402.out).1
        clear hH75 ge75_3
        refine start_ (n := 13) (S := fun w' => w'.cell? ⟨gb380, 0, none⟩ = some (.int .i64 a2) ∧ w'.cell? ⟨gb380, 1, none⟩ = some (.int .i64 a3_1) ∧ w'.cell? ⟨gb380, 2, none⟩ = some (.string a3_2) ∧ w'.cell? ⟨gb380, 3, none⟩ = some (.int .i64 a3_3) ∧ w'.cell? ⟨go75, ((a1).toNat * 4), none⟩ = some (.int .i64 ((rd_T43 t400 a1).f0)) ∧ w'.cell? ⟨go75, ((a1).toNat * 4) + 1, none⟩ = some (.int .i64 ((rd_T43 t400 a1).f1)) ∧ w'.cell? ⟨go75, ((a1).toNat * 4) + 2, none⟩ = some (.int .i64 ((rd_T43 t400 a1).f2)) ∧ w'.cell? ⟨go75, ((a1).toNat * 4) + 3, none⟩ = some (.slice A417_3 ((rd_T43 t400 a1).f3).length c417_3)) (ds := [12]) _ (by kernel_rfl) rfl (fls 13) ⟨(blk_cell BK380.out 0).trans rfl, (blk_cell BK380.out 1).trans rfl, (blk_cell BK380.out 2).trans rfl, (blk_cell BK380.out 3).trans rfl, hx417_0, hx417_1, hx417_2, hx417_3⟩ (fun hHeld => ?_); refine with_tabW tree_Tree_Put.tab16 tree_Tree_Put.bits16 (fun HT_ HW_ => ?_)
        generalize w72.drew = w73 at HO402 BK380 HB GG75 HH75 HL417_3 HR417_3 HX417_3 UU75 hx417_0 hx417_1 hx417_2 hx417_3 hHeld ⊢
        refine pu 0 85 ?_; refine pu 1 86 ?_
        refine pu 2 87 ?_; refine pu 3 88 ?_
        refine pu 4 89 ?_; refine pu 5 90 ?_
        refine tk 6 91 ?_; refine tk 7 92 ?_
        refine onx 8 93 (fun K hK => ?_)
        refine value_ (w1 := ?_) (v := ?_) (by rfl) rfl ?_ ?_
        rotate_left 2
        ·go_simp
         constructor
         ·rfl
         ·rfl
        refine hK.out _ _ ⟨(blk_cell (blk_alloc BK380.out _) 0).trans rfl, (blk_cell (blk_alloc BK380.out _) 1).trans rfl, (blk_cell (blk_alloc BK380.out _) 2).trans rfl, (blk_cell (blk_alloc BK380.out _) 3).trans rfl, (World.cell?_alloc_lt _ _ _ (World.block_lt_of_cell? _ _ (hHeld.2.2.2.2.1))).trans (hHeld.2.2.2.2.1), (World.cell?_alloc_lt _ _ _ (World.block_lt_of_cell? _ _ (hHeld.2.2.2.2.2.1))).trans (hHeld.2.2.2.2.2.1), (World.cell?_alloc_lt _ _ _ (World.block_lt_of_cell? _ _ (hHeld.2.2.2.2.2.2.1))).trans (hHeld.2.2.2.2.2.2.1), (World.cell?_alloc_lt _ _ _ (World.block_lt_of_cell? _ _ (hHeld.2.2.2.2.2.2.2))).trans (hHeld.2.2.2.2.2.2.2)⟩ (fun hHeld => ?_)
        clear hK K
        refine nm 93 ?_
        refine onx 9 94 (fun K hK => ?_)
        refine Kd.R_append_step k45 (w0 := w) w.heap.size (by rfl) (.tmp 91) (.tmp 93) 41 45 (.agg #[(.int .i64 0), (.int .i64 0), (.string ⟨#[]⟩), (.int .i64 0)]) 40 rfl Tryd.underlying41 info45 rfl (by decide) (by omega) (.slice A417_3 ((rd_T43 t400 a1).f3).length c417_3) ((rd_T43 t400 a1).f3) (⟨a2, a3_1, a3_2, a3_3⟩ : S45) [.int .i64 a2, .int .i64 a3_1, .string a3_2, .int .i64 a3_3] (fun k_ => oki75 k_ ∨ ((fun k_ => k_ ≠ gb380)) k_ ∧ w73.heap.size ≤ k_) (fun _ => False) rfl rfl ?aP (fun _ hk => hk.elim) ?aF ?aO ?aB ?aS ?aL ?_
        (case aP => exact k45_mkM _ _ _ (⟨a2, a3_1, a3_2, a3_3⟩ : S45))
        (case aB => exact qB)
        (case aF => exact (fun k_ hk => .inr ⟨Kd.freshB (g := gb380) (o := .cells #[.int .i64 a2, .int .i64 a3_1, .string a3_2, .int .i64 a3_3] 45 (0, 0)) qK k_ hk, hk⟩))
        (case aO => exact (by (with_reducible repeat (first | apply Kd.R_alloc | apply Kd.R_drewN | apply Kd.R_drew)); exact Kd.R_mono UU75.out (fun _ hk => .inl hk)))
        (case aS => exact (below_size qB))
        (case aL => have := LMc69.out; omega)
        intro v419 w76 ho hb hg hat
        (first | have HS4_ := cell_grown hg (hHeld.2.2.2.2.1) (by first | (rw [add_block]; exact (fun e_ => ((HL417_3.out.1 _ e_.symm).2) rfl)) | (show some (Addr.add _ _).block ≠ _; rw [add_block]; exact (fun e_ => ((HL417_3.out.1 _ e_.symm).2) rfl)) | exact (fun e_ => ((HL417_3.out.1 _ e_.symm).2) rfl)) | have HS4_ := cell_grown hg (cell_unalloc (hHeld.2.2.2.2.1) (by first | (rw [add_block]; exact Kd.S_lt HO402.out _ rfl) | (show (Addr.add _ _).block < _; rw [add_block]; exact Kd.S_lt HO402.out _ rfl) | exact Kd.S_lt HO402.out _ rfl)) (by first | (rw [add_block]; exact (fun e_ => ((HL417_3.out.1 _ e_.symm).2) rfl)) | (show some (Addr.add _ _).block ≠ _; rw [add_block]; exact (fun e_ => ((HL417_3.out.1 _ e_.symm).2) rfl)) | exact (fun e_ => ((HL417_3.out.1 _ e_.symm).2) rfl)))
        (first | have HS5_ := cell_grown hg (hHeld.2.2.2.2.2.1) (by first | (rw [add_block]; exact (fun e_ => ((HL417_3.out.1 _ e_.symm).2) rfl)) | (show some (Addr.add _ _).block ≠ _; rw [add_block]; exact (fun e_ => ((HL417_3.out.1 _ e_.symm).2) rfl)) | exact (fun e_ => ((HL417_3.out.1 _ e_.symm).2) rfl)) | have HS5_ := cell_grown hg (cell_unalloc (hHeld.2.2.2.2.2.1) (by first | (rw [add_block]; exact Kd.S_lt HO402.out _ rfl) | (show (Addr.add _ _).block < _; rw [add_block]; exact Kd.S_lt HO402.out _ rfl) | exact Kd.S_lt HO402.out _ rfl)) (by first | (rw [add_block]; exact (fun e_ => ((HL417_3.out.1 _ e_.symm).2) rfl)) | (show some (Addr.add _ _).block ≠ _; rw [add_block]; exact (fun e_ => ((HL417_3.out.1 _ e_.symm).2) rfl)) | exact (fun e_ => ((HL417_3.out.1 _ e_.symm).2) rfl)))
        (first | have HS6_ := cell_grown hg (hHeld.2.2.2.2.2.2.1) (by first | (rw [add_block]; exact (fun e_ => ((HL417_3.out.1 _ e_.symm).2) rfl)) | (show some (Addr.add _ _).block ≠ _; rw [add_block]; exact (fun e_ => ((HL417_3.out.1 _ e_.symm).2) rfl)) | exact (fun e_ => ((HL417_3.out.1 _ e_.symm).2) rfl)) | have HS6_ := cell_grown hg (cell_unalloc (hHeld.2.2.2.2.2.2.1) (by first | (rw [add_block]; exact Kd.S_lt HO402.out _ rfl) | (show (Addr.add _ _).block < _; rw [add_block]; exact Kd.S_lt HO402.out _ rfl) | exact Kd.S_lt HO402.out _ rfl)) (by first | (rw [add_block]; exact (fun e_ => ((HL417_3.out.1 _ e_.symm).2) rfl)) | (show some (Addr.add _ _).block ≠ _; rw [add_block]; exact (fun e_ => ((HL417_3.out.1 _ e_.symm).2) rfl)) | exact (fun e_ => ((HL417_3.out.1 _ e_.symm).2) rfl)))
        (first | have HS7_ := cell_grown hg (hHeld.2.2.2.2.2.2.2) (by first | (rw [add_block]; exact (fun e_ => ((HL417_3.out.1 _ e_.symm).2) rfl)) | (show some (Addr.add _ _).block ≠ _; rw [add_block]; exact (fun e_ => ((HL417_3.out.1 _ e_.symm).2) rfl)) | exact (fun e_ => ((HL417_3.out.1 _ e_.symm).2) rfl)) | have HS7_ := cell_grown hg (cell_unalloc (hHeld.2.2.2.2.2.2.2) (by first | (rw [add_block]; exact Kd.S_lt HO402.out _ rfl) | (show (Addr.add _ _).block < _; rw [add_block]; exact Kd.S_lt HO402.out _ rfl) | exact Kd.S_lt HO402.out _ rfl)) (by first | (rw [add_block]; exact (fun e_ => ((HL417_3.out.1 _ e_.symm).2) rfl)) | (show some (Addr.add _ _).block ≠ _; rw [add_block]; exact (fun e_ => ((HL417_3.out.1 _ e_.symm).2) rfl)) | exact (fun e_ => ((HL417_3.out.1 _ e_.symm).2) rfl)))
        rw [← Ny418.out] at ho
        have n0_ := Aside0.mk (blk_grown (g := gb380) (o := .cells #[.int .i64 a2, .int .i64 a3_1, .string a3_2, .int .i64 a3_3] 45 (0, 0)) qK hg (Kd.R_away HL417_3.out (fun _ hk => hk.1.2)))
        have n1_ := Aside0.mk (hb)
        have n2_ := Aside0.mk (Kd.H_grown (Kd.H_widen (by repeat (first | exact HH75.out | refine Kd.H_alloc ?_ _ | refine Kd.H_drewN ?_ _ | refine Kd.H_drew ?_))) hg (fun k_ e_ => .inl (UU75.out.1 k_ e_)))
        have n3_ := Aside0.mk (ho)
        clear BK380
        clear HB
        clear HH75
        clear HO402
        clear UU75
        clear HL417_3
        have BK380 := n0_
        have HB := n1_
        have HH75 := n2_
        have HO420 := n3_
        clear n0_ n1_ n2_ n3_
        clear ho hb hg hat
        have p70 : 0 ≤ (a1 : Int) := qD
        have q70 : (a1 : Int) < ((t400.length : Int) : Int) := qD
        replace p70 := eq_true p70
        replace q70 := eq_true q70
        obtain ⟨Ao79, co79, eo79⟩ := Kd.R_slice HO420.out
        (first | subst eo79 | (injection eo79 with f1_ f2_ f3_; have f4_ := f1_.symm; have f5_ := f3_.symm; clear f1_ f2_ f3_; subst f4_; subst f5_))
        obtain ⟨_, _, hraw77, _, _, hcc77, _⟩ := Kd.H_raw HH75.out (qD) (by have h_ : (a1 : Int) < ((t400.length : Int) : Int) := qD; first | exact h_ | (have e_ := (HN75.out); omega) | simpa using h_)
        obtain ⟨_, hfr77⟩ := Kd.H_at HH75.out (qD) (by have h_ : (a1 : Int) < ((t400.length : Int) : Int) := qD; first | exact h_ | (have e_ := (HN75.out); omega) | simpa using h_)
        have hx77_0 := hcc77 3 _ rfl
        have hf77_0 := hfr77 3
        (try rw [show (k43).sz = 4 from rfl] at hx77_0)
        (try rw [show (k43).sz = 4 from rfl] at hf77_0)
        have HP77 := Kd.S_seg0 HH75.out (qD) (by have h_ : (a1 : Int) < ((t400.length : Int) : Int) := qD; first | exact h_ | (have e_ := (HN75.out); omega) | simpa using h_) (seg := [.slice Ao79 y418.length co79]) (j := 3) (show 4 ≤ 4 from by decide) (x' := (⟨(rd_T43 t400 a1).f0, (rd_T43 t400 a1).f1, (rd_T43 t400 a1).f2, y418⟩ : S43)) (k43_mkM _ _ _ (⟨(rd_T43 t400 a1).f0, (rd_T43 t400 a1).f1, (rd_T43 t400 a1).f2, y418⟩ : S43) HO420.out) (fun _ hk => hk)
        clear hcc77 hfr77
        have HNB380_go75 := Aside0.mk (show gb380 ≠ go75 from by have h_ := Kd.R_ne hraw77 BK380.out (by decide); intro e_; exact h_ (by rw [e_]; rfl))
        have HS77 := HP77.1
        rw [← Ny421.out] at HS77
        have HQ77 := Aside0.mk HS77
        obtain ⟨_, hgg77⟩ := Kd.R_typed hraw77 go75 rfl
        have GG77_ := Aside0.mk hgg77
        clear HP77 HS77 hgg77
        refine hK.out _ _ ⟨(blk_cell BK380.out 0).trans rfl, (blk_cell BK380.out 1).trans rfl, (blk_cell BK380.out 2).trans rfl, (blk_cell BK380.out 3).trans rfl, HS4_, HS5_, HS6_, HS7_⟩ (fun hHeld => ?_)
        clear hK K
        refine nm 94 ?_
        refine pu 10 95 ?_; refine pu 11 96 ?_
        refine last_ (i := 12) (N := none) #[true, true, true, true, true, true, true, true, true, true, true, true, true] rfl rfl (one_of HT_.out (by kernel_rfl)) (by decide) (fun K hK => ?_)
        refine skip_ (w1 := ?_) (by rfl) rfl ?_ ?_
        rotate_left
        ·go_simp
         rfl
        refine hK.out _ _ ?_
        clear hK K
        refine done_ (done_of HT_.out (by kernel_rfl)) ?_
        have n0_ : Aside0 (Kd.S k43 43 (w76.setCell ⟨go75, (a1 : Int).toNat * 4 + 3, none⟩ (.slice Ao79 y418.length co79)) w.heap.size (fun k_ => k_ ≠ gb380) (.slice (some ⟨go75, 0, none⟩) t400.length co74) y421) := ⟨by (with_reducible repeat (first | apply Kd.S_alloc | apply Kd.S_drewN | apply Kd.S_drew)); exact HQ77.out⟩
        have n1_ : Aside0 ((w76.setCell ⟨go75, (a1 : Int).toNat * 4 + 3, none⟩ (.slice Ao79 y418.length co79)).heap[gb380]? = some (.cells #[.int .i64 a2, .int .i64 a3_1, .string a3_2, .int .i64 a3_3] 45 (0, 0))) := ⟨qK⟩
        have n2_ : Aside0 (Below w.heap.size w (w76.setCell ⟨go75, (a1 : Int).toNat * 4 + 3, none⟩ (.slice Ao79 y418.length co79))) := ⟨qB⟩
        (try clear HO402)
        (try clear BK380)
        (try clear HB)
        generalize (w76.setCell ⟨go75, (a1 : Int).toNat * 4 + 3, none⟩ (.slice Ao79 y418.length co79)) = w80 at n0_ n1_ n2_ ⊢
        have HO402 := n0_
        have BK380 := n1_
        have HB := n2_
        clear n0_ n1_ n2_
        have p71 : 0 ≤ (a1 : Int) := qD
        have q71 : (a1 : Int) < ((t400.length : Int) : Int) := qD
        obtain ⟨_, ce71, hcl71, hM71, hcc71, hfr71, _, _⟩ := Kd.S_elem HO402.out z43 (a1 : Int) p71 q71
        obtain ⟨ve71_3, rfl, ge71_3⟩ := k43_openM hM71
        have hx71_0 : w80.cell? ⟨go75, (a1 : Int).toNat * 4, none⟩ = some (.int .i64 ((rd_T43 y421 a1).f0)) := hcc71 0 _ rfl
        have hx71_1 : w80.cell? ⟨go75, (a1 : Int).toNat * 4 + 1, none⟩ = some (.int .i64 ((rd_T43 y421 a1).f1)) := hcc71 1 _ rfl
        have hx71_2 : w80.cell? ⟨go75, (a1 : Int).toNat * 4 + 2, none⟩ = some (.int .i64 ((rd_T43 y421 a1).f2)) := hcc71 2 _ rfl
        have hx71_3 : w80.cell? ⟨go75, (a1 : Int).toNat * 4 + 3, none⟩ = some (ve71_3) := hcc71 3 _ rfl
        have hf71_0 : w80.frozen? ⟨go75, (a1 : Int).toNat * 4, none⟩ = false := hfr71 0
        have hf71_1 : w80.frozen? ⟨go75, (a1 : Int).toNat * 4 + 1, none⟩ = false := hfr71 1
        have hf71_2 : w80.frozen? ⟨go75, (a1 : Int).toNat * 4 + 2, none⟩ = false := hfr71 2
        have hf71_3 : w80.frozen? ⟨go75, (a1 : Int).toNat * 4 + 3, none⟩ = false := hfr71 3
        clear hcl71 hcc71 hfr71 hM71
        replace p71 := eq_true p71
        replace q71 := eq_true q71
        have HX81 := Aside0.mk (show Kd.S k43 43 w80 w.heap.size (fun k_ => ((fun k_ => k_ ≠ gb380)) k_ ∧ ¬ ((fun _ => False)) k_) (.slice (some ⟨go75, 0, none⟩) t400.length co74) y421 from (by (with_reducible repeat (first | apply Kd.S_alloc | apply Kd.S_drewN | apply Kd.S_drew)); exact Kd.S_mono HO402.out (fun k_ hk => ⟨hk, fun e_ => e_⟩)))
        obtain ⟨oki81, ce81, hcl81, hM81, hcc81, hfr81, hoki81, hH81⟩ := Kd.S_elem HX81.out z43 (a1 : Int) (qD) (by have h_ : (a1 : Int) < ((t400.length : Int) : Int) := qD; first | exact h_ | (have e_ := (Kd.S_reads' HO402.out).1; omega) | simpa using h_)
        obtain ⟨ve81_3, rfl, ge81_3⟩ := k43_openM hM81
        have HP81 := Kd.S_seg hH81 (qD) (by have h_ : (a1 : Int) < ((t400.length : Int) : Int) := qD; first | exact h_ | (have e_ := (Kd.S_reads' HO402.out).1; omega) | simpa using h_) (seg := [.int .i64 (wrap64 (a2 + 1))]) (j := 2) (show 3 ≤ 4 from by decide) (x' := (⟨(rd_T43 y421 a1).f0, (rd_T43 y421 a1).f1, wrap64 (a2 + 1), (rd_T43 y421 a1).f3⟩ : S43)) (k43_mkM _ _ _ (⟨(rd_T43 y421 a1).f0, (rd_T43 y421 a1).f1, wrap64 (a2 + 1), (rd_T43 y421 a1).f3⟩ : S43) (Kd.R_mono ge81_3 (fun _ h_ => Or.inl h_))) (fun _ hk => hk) (fun k_ hk_ => hk_.elim)
        have hx81_2 := hcc81 2 _ rfl
        (try simp only [show (k43).sz = 4 from rfl, Nat.mul_one, Nat.add_zero] at hx81_2)
        have hf81_2 := hfr81 2
        (try simp only [show (k43).sz = 4 from rfl, Nat.mul_one, Nat.add_zero] at hf81_2)
        clear hcl81 hcc81 hfr81 hM81 hoki81 hH81
        try go_wp2_with (first | ((with_reducible refine gate_store (t := 3) (p := 102) rfl ?_); refine store_event (t := 3) (p := 102) (v := ?vo_w82) (w1 := (w80.setCell ⟨go75, (a1 : Int).toNat * 4 + 2, none⟩ (.int .i64 (wrap64 (a2 + 1))))) ?hg ?ho ?hn ?hr ?_; (case ho => rfl); (case hg => rfl); (case hn => rfl); (case hr => first | (go_simp; done) | (go_simp; rfl)); intro w82 hw; have hg : w80.grownBy w82 (some go75) := (by rw [hw]; exact HP81.2); have hp_ : Kd.S k43 43 w82 w.heap.size (fun k_ => k_ ≠ gb380) (.slice (some ⟨go75, 0, none⟩) t400.length co74) y422 := (by rw [hw, Ny422.out]; exact HP81.1); clear HP81; have n0_ := Aside0.mk (blk_grown (g := gb380) (o := .cells #[.int .i64 a2, .int .i64 a3_1, .string a3_2, .int .i64 a3_3] 45 (0, 0)) qK hg (Kd.S_ne HO402.out BK380.out (by decide))); have n1_ := Aside0.mk (hp_); have n2_ := Aside0.mk ((by rw [hw]; exact below_set (HB.out) GB75.out : Below w.heap.size w w82)); clear BK380; clear HO402; clear HB; have BK380 := n0_; have HO402 := n1_; have HB := n2_; clear n0_ n1_ n2_; clear hg hw hp_))
        go_ret3
        exact ⟨_, qR, by (with_reducible repeat (first | apply Kd.S_alloc | apply Kd.S_drewN | apply Kd.S_drew)); exact Kd.S_mono HO402.out (fun _ hk => trivial), qB⟩
       ·rw [if_neg c69] at H
        exact absurd H (by simp)
      ·rw [if_neg c68] at H
       exact absurd H (by simp)
    ·rw [if_neg c44] at H
     exact absurd H (by simp)
   ·exact absurd H (by simp)
end Go.Proofs.YtbngfhlciebeeaaDoor.L
