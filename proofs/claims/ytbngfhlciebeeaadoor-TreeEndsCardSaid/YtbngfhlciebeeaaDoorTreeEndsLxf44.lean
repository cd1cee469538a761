/- Printed and hand-written steps towards the row (TreeEnds), those that it reaches. -/
import Derived.Test.YtbngfhlciebeeaaDoorTreeEndsG5
import Derived.Test.YtbngfhlciebeeaaDoorTreeEndsG6
import Derived.Test.YtbngfhlciebeeaaDoorTreeEndsG19
import Derived.Test.YtbngfhlciebeeaaDoorTreeEndsG20
namespace Go.Proofs.YtbngfhlciebeeaaDoor.L
open Go.RowKit Go.Proofs.YtbngfhlciebeeaaDoorW.PrintWords Go.Proofs.YtbngfhlciebeeaaDoorW.PrintLast Go.Proofs.YtbngfhlciebeeaaDoorW.PrintMore
attribute [local go_sem] max2_int min2_int max_two min_two max_three min_three max_four min_four   -- for this text's walks alone
set_option linter.unusedVariables false
set_option linter.unusedSimpArgs false
attribute [local go_sem high] eqA45
mutual
def tree_Tree_Common.j0 : Nat → List (S43) → Int → Int → Bool → Option (Int)
 | 0, _, _, _, _ => none
 | k + 1, x0, x1, x2, x22 => if x22 = true then (some 0) else (if 0 ≤ x1 then (if x1 < (x0.length : Int) then (if 0 ≤ x2 then (if x2 < (x0.length : Int) then (tree_Tree_Common.l0 k x0 x1 x2 (mn ((rd_T43 x0 x1).f2) ((rd_T43 x0 x2).f2)) (mn ((rd_T43 x0 x1).f2) ((rd_T43 x0 x2).f2)) 0) else (none)) else (none)) else (none)) else (none))
def tree_Tree_Common.l0 : Nat → List (S43) → Int → Int → Int → Int → Int → Option (Int)
 | 0, _, _, _, _, _, _ => none
 | k + 1, x0, x1, x2, x7, x34, x35 => if x35 < x34 then ((tree_Tree_Input.f x0 x1 x35).bind fun bt502 => ((tree_Tree_Input.f x0 x2 x35).bind fun bt508 => (if (bt502.2.2.2.2 != bt508.2.2.2.2) = true then (some x35) else (if (!(bt502.1 == bt508.1) || (!(bt502.2.1 == bt508.2.1) || (!(bt502.2.2.1.toList == bt508.2.2.1.toList) || (!(bt502.2.2.2.1 == bt508.2.2.2.1))))) = true then (some x35) else (tree_Tree_Common.l0 k x0 x1 x2 x7 x34 (wrap64 (x35 + 1))))))) else (some x7)
end
def tree_Tree_Common.f (k : Nat) (l0 : List (S43)) (a1 : Int) (a2 : Int) : Option (Int) := (tree_Tree_has.f l0 a1).bind fun t498 => (if t498 = true then ((tree_Tree_has.f l0 a2).bind fun t499 => (tree_Tree_Common.j0 k l0 a1 a2 (!t499))) else (tree_Tree_Common.j0 k l0 a1 a2 true))
set_option maxHeartbeats 8000000 in
set_option maxRecDepth 100000 in
theorem tree_Tree_Common.calls (k : Nat) (A0 : Option Addr) (c0 : Nat) (l0 : List (S43)) (a1 : Int) (a2 : Int) (r : Int) (w : World) (hr0 : Kd.C k43 w A0 l0.length l0) (hc0 : l0.length ≤ c0) (h : tree_Tree_Common.f k l0 a1 a2 = some r) :
  Calls Tryd.prog 44 #[.slice A0 l0.length c0, .int .i64 a1, .int .i64 a2] w fun e w' => e = .returned (.int .i64 r) ∧ Below w.heap.size w w' := by
 have hu45 := Tryd.underlying45
 have HR0 := Aside0.mk hr0
 have HC0 := Aside0.mk hc0
 clear hr0 hc0
 have HB := Aside0.mk (Below.refl w.heap.size w)
 have H : ((tree_Tree_has.f l0 a1).bind fun t498 => (if t498 = true then ((tree_Tree_has.f l0 a2).bind fun t499 => (tree_Tree_Common.j0 k l0 a1 a2 (!t499))) else (tree_Tree_Common.j0 k l0 a1 a2 true))) = some r := h
 clear h
 have HC4 := Aside0.mk H
 clear H
 go_enter Tryd.func44, Tryd.ntmps44
 go_upto_region 1 with (fail)
 repeat (go_quiet (fail); go_upto_region 1 with (fail))
 go_cut [22] (fun v22 wc => ∃ (kq : Nat) (x22_3 : Bool), v22 = .bool x22_3 ∧ Aside0 (tree_Tree_Common.j0 kq l0 a1 a2 x22_3 = some r) ∧ Aside0 (kq ≤ k) ∧ Aside0 (Below w.heap.size w wc))
 case first =>
  have H := HC4.out
  clear HC4
  replace H := Option.bind_eq_some_iff.mp H
  obtain ⟨t498, A50, H⟩ := H
  (try dsimp -simprocs only at H)
  have A5 := Aside0.mk A50
  clear A50
  by_cases c6 : t498 = true
  ·subst c6
   rw [if_pos rfl] at H
   replace H := Option.bind_eq_some_iff.mp H
   obtain ⟨t499, A70, H⟩ := H
   (try dsimp -simprocs only at H)
   have A7 := Aside0.mk A70
   clear A70
   have H' := Aside0.mk H
   clear H
   go_wp2_with (first | (go_at_call 80; (with_reducible refine (tree_Tree_has.calls _ _ l0 a1 true _ ?side1 ?side2 A5.out).mono ?_); (case side1 => exact qC); (case side2 => exact HC0.out); rintro e w' ⟨rfl, ⟨nd, rfl⟩⟩; (try exact qW)) | (go_at_call 80; (with_reducible refine (tree_Tree_has.calls _ _ l0 a2 t499 _ ?side1 ?side2 A7.out).mono ?_); (case side1 => repeat (first | exact (Kd.C_below HR0.out qB) | (with_reducible refine Kd.C_alloc ?_ _) | (with_reducible refine Kd.C_drewN ?_ _) | (with_reducible refine Kd.C_drew ?_))); (case side2 => exact HC0.out); rintro e w' ⟨rfl, ⟨nd, rfl⟩⟩; (try exact qW)))
   repeat (go_quiet (first | (go_at_call 80; (with_reducible refine (tree_Tree_has.calls _ _ l0 a1 true _ ?side1 ?side2 A5.out).mono ?_); (case side1 => exact qC); (case side2 => exact HC0.out); rintro e w' ⟨rfl, ⟨nd, rfl⟩⟩; (try exact qW)) | (go_at_call 80; (with_reducible refine (tree_Tree_has.calls _ _ l0 a2 t499 _ ?side1 ?side2 A7.out).mono ?_); (case side1 => repeat (first | exact (Kd.C_below HR0.out qB) | (with_reducible refine Kd.C_alloc ?_ _) | (with_reducible refine Kd.C_drewN ?_ _) | (with_reducible refine Kd.C_drew ?_))); (case side2 => exact HC0.out); rintro e w' ⟨rfl, ⟨nd, rfl⟩⟩; (try exact qW))); try go_wp2_with (first | (go_at_call 80; (with_reducible refine (tree_Tree_has.calls _ _ l0 a1 true _ ?side1 ?side2 A5.out).mono ?_); (case side1 => exact qC); (case side2 => exact HC0.out); rintro e w' ⟨rfl, ⟨nd, rfl⟩⟩; (try exact qW)) | (go_at_call 80; (with_reducible refine (tree_Tree_has.calls _ _ l0 a2 t499 _ ?side1 ?side2 A7.out).mono ?_); (case side1 => repeat (first | exact (Kd.C_below HR0.out qB) | (with_reducible refine Kd.C_alloc ?_ _) | (with_reducible refine Kd.C_drewN ?_ _) | (with_reducible refine Kd.C_drew ?_))); (case side2 => exact HC0.out); rintro e w' ⟨rfl, ⟨nd, rfl⟩⟩; (try exact qW))))
   go_meet
   case rel => exact ⟨_, (!t499), (by first | rfl | (simp; done) | (simp [*]; done)), H', ⟨by first | omega | exact Nat.le_refl _⟩, ⟨qB⟩⟩
  ·replace c6 := Bool.eq_false_iff.mpr c6
   subst c6
   rw [if_neg (show ¬ (false = true) by decide)] at H
   have H' := Aside0.mk H
   clear H
   go_wp2_with (first | (go_at_call 80; (with_reducible refine (tree_Tree_has.calls _ _ l0 a1 false _ ?side1 ?side2 A5.out).mono ?_); (case side1 => exact qC); (case side2 => exact HC0.out); rintro e w' ⟨rfl, ⟨nd, rfl⟩⟩; (try exact qW)))
   repeat (go_quiet (first | (go_at_call 80; (with_reducible refine (tree_Tree_has.calls _ _ l0 a1 false _ ?side1 ?side2 A5.out).mono ?_); (case side1 => exact qC); (case side2 => exact HC0.out); rintro e w' ⟨rfl, ⟨nd, rfl⟩⟩; (try exact qW))); try go_wp2_with (first | (go_at_call 80; (with_reducible refine (tree_Tree_has.calls _ _ l0 a1 false _ ?side1 ?side2 A5.out).mono ?_); (case side1 => exact qC); (case side2 => exact HC0.out); rintro e w' ⟨rfl, ⟨nd, rfl⟩⟩; (try exact qW))))
   go_meet
   case rel => exact ⟨_, (true), (by first | rfl | (simp; done) | (simp [*]; done)), H', ⟨by first | omega | exact Nat.le_refl _⟩, ⟨qB⟩⟩
 case rest =>
  clear HC4
  try clear p2
  try clear c4
  try clear c6
  obtain ⟨kq, x22_3, rfl, HA, HJ3, HB⟩ := hcut
  cases kq with
  | zero => exact absurd HA.out (by simp [tree_Tree_Common.j0])
  | succ kj3 =>
   have H := HA.out
   clear HA
   simp only [tree_Tree_Common.j0] at H
   by_cases c8 : x22_3 = true
   ·subst c8
    rw [if_pos rfl] at H
    obtain rfl := Option.some.inj H
    go_wp2
    repeat (go_quiet (fail); try go_wp2)
    go_ret
    exact ⟨qR, qB⟩
   ·replace c8 := Bool.eq_false_iff.mpr c8
    subst c8
    rw [if_neg (show ¬ (false = true) by decide)] at H
    by_cases c9 : 0 ≤ a1
    ·rw [if_pos c9] at H
     have c9b0 := decide_eq_true c9
     clear c9
     by_cases c10 : a1 < (l0.length : Int)
     ·rw [if_pos c10] at H
      have c10b0 := decide_eq_true c10
      clear c10
      by_cases c11 : 0 ≤ a2
      ·rw [if_pos c11] at H
       have c11b0 := decide_eq_true c11
       clear c11
       by_cases c12 : a2 < (l0.length : Int)
       ·rw [if_pos c12] at H
        have c12b0 := decide_eq_true c12
        clear c12
        obtain ⟨ji13, hji13⟩ : ∃ j_ : Int, (mn ((rd_T43 l0 a1).f2) ((rd_T43 l0 a2).f2)) = j_ := ⟨_, rfl⟩
        replace H : (tree_Tree_Common.l0 kj3 l0 a1 a2 ji13 ji13 0) = some r := by first | (rw [hji13] at H; exact H) | (simp only [hji13] at H ⊢; exact H)
        have hji13_ : (if ((rd_T43 l0 a2).f2) < ((rd_T43 l0 a1).f2) then ((rd_T43 l0 a2).f2) else ((rd_T43 l0 a1).f2)) = ji13 := hji13
        have H' := Aside0.mk H
        clear H
        have p500 : 0 ≤ (a1 : Int) := qD
        have q500 : a1 < (l0.length : Int) := qD
        obtain ⟨ad500, A500_3, c500_3, e500, hx500_0, hx500_1, hx500_2, hx500_3, hl500_3, hi500_3⟩ := at_T43 HR0.out a1 p500 q500
        cases e500
        replace hx500_0 := pw_cell_below HB.out hx500_0
        replace hx500_1 := pw_cell_below HB.out hx500_1
        replace hx500_2 := pw_cell_below HB.out hx500_2
        replace hx500_3 := pw_cell_below HB.out hx500_3
        have HR500_3 := Aside0.mk hi500_3
        have HC500_3 := Aside0.mk hl500_3
        clear hi500_3 hl500_3
        replace p500 := eq_true p500
        replace q500 := eq_true q500
        have p501 : 0 ≤ (a2 : Int) := qD
        have q501 : a2 < (l0.length : Int) := qD
        obtain ⟨ad501, A501_3, c501_3, e501, hx501_0, hx501_1, hx501_2, hx501_3, hl501_3, hi501_3⟩ := at_T43 HR0.out a2 p501 q501
        obtain rfl : ad500 = ad501 := (by injection e501)
        replace hx501_0 := pw_cell_below HB.out hx501_0
        replace hx501_1 := pw_cell_below HB.out hx501_1
        replace hx501_2 := pw_cell_below HB.out hx501_2
        replace hx501_3 := pw_cell_below HB.out hx501_3
        have HR501_3 := Aside0.mk hi501_3
        have HC501_3 := Aside0.mk hl501_3
        clear hi501_3 hl501_3
        replace p501 := eq_true p501
        replace q501 := eq_true q501
        go_wp2
        repeat (go_quiet (fail); try go_wp2)
        go_loopg [35] kj3 (fun kq v35 w' => ∃ (x35_2 : Int), v35 = .int .i64 x35_2 ∧ Aside0 (tree_Tree_Common.l0 kq l0 a1 a2 ji13 ji13 x35_2 = some r) ∧ Aside0 (kq ≤ kj3) ∧ Aside0 (Below w.heap.size w w'))
        case atStart => exact ⟨(0), (by first | rfl | (simp; done) | (simp [*]; done)), H', ⟨Nat.le_refl _⟩, ⟨qB⟩⟩
        case round =>
         clear H'
         try clear c1
         try clear p2 p2
         try clear c4
         try clear c5
         try clear p5
         try clear q5
         try clear hx5
         try clear c6
         try clear c8
         try clear c9
         try clear c9b0
         try clear c10
         try clear c10b0
         try clear c11
         try clear c11b0
         try clear c12
         try clear c12b0
         try clear hx500_0
         try clear hx500_1
         try clear hx500_2
         try clear hx500_3
         try clear hx501_0
         try clear hx501_1
         try clear hx501_2
         try clear hx501_3
         try clear p500
         try clear p501
         try clear q500
         try clear q501
         obtain ⟨x35_2, rfl, HA, HK2, HB⟩ := hrel
         cases gk with
         | zero => exact absurd HA.out (by simp [tree_Tree_Common.l0])
         | succ k2 =>
          have H := HA.out
          clear HA
          simp only [tree_Tree_Common.l0] at H
          replace H := iD H
          rcases H with ⟨c14b0, H⟩ | ⟨c14b0, H⟩
          ·replace H := Option.bind_eq_some_iff.mp H
           obtain ⟨⟨t502, t503, t504, t505, t506⟩, A150, H⟩ := H
           (try dsimp -simprocs only at H)
           have A15 := Aside0.mk A150
           clear A150
           replace H := Option.bind_eq_some_iff.mp H
           obtain ⟨⟨t508, t509, t510, t511, t512⟩, A160, H⟩ := H
           (try dsimp -simprocs only at H)
           have A16 := Aside0.mk A160
           clear A160
           by_cases c17 : (t506 != t512) = true
           ·rw [if_pos c17] at H
            have c17b0 : (t506 != t512) = true := c17
            (try (have c17b1 : decide (t506 = t512) = false := by simpa using c17))
            (try (have c17b2 : (t506 == t512) = false := by simpa using c17))
            (try (have c17b3 : ¬ (t506 = t512) := by simpa using c17))
            clear c17
            obtain rfl := Option.some.inj H
            go_wp2_with (first | (go_at_call 42; (with_reducible refine (tree_Tree_Input.calls _ _ l0 a1 x35_2 t502 t503 t504 t505 t506 _ ?side1 ?side2 A15.out).mono ?_); (case side1 => exact qC); (case side2 => exact HC0.out); rintro e w18 ⟨rfl, hb⟩; replace HB := bst hb; (try clear hb)) | ((with_reducible refine gd 9 rfl ?_); refine bx 9 #[.int .i64 0, .int .i64 0, .string (⟨#[]⟩ : ByteArray), .int .i64 0] 45 ?_; intro gb507 hg w19 hbox hb; have BK507 := Aside0.mk (hbox); have GW507 := geS hg; have GE507 := geS hg; replace HB := bst hb; clear hb hbox hg; obtain ⟨hcz20_0, hcz20_1, hcz20_2, hcz20_3, hfz20_0, hfz20_1, hfz20_2, hfz20_3⟩ := cells4 BK507.out) | (go_at_call 42; (with_reducible refine (tree_Tree_Input.calls _ _ l0 a2 x35_2 t508 t509 t510 t511 t512 _ ?side1 ?side2 A16.out).mono ?_); (case side1 => exact Kd.C_below HR0.out qB); (case side2 => exact HC0.out); rintro e w21 ⟨rfl, hb⟩; replace BK507 := kp gb507 (.cells #[.int .i64 t502, .int .i64 t503, .string t504, .int .i64 t505] 45 (0, 0)) hb; replace HB := bst hb; (try clear hb)) | ((with_reducible refine gd 11 rfl ?_); refine bx 11 #[.int .i64 0, .int .i64 0, .string (⟨#[]⟩ : ByteArray), .int .i64 0] 45 ?_; intro gb513 hg w22 hbox hb; have BK513 := Aside0.mk (hbox); have GW513 := geS hg; have GE513 := geS hg; have NB507_513 := neS gb507 hg; have NB513_507 := neT gb507 hg; replace BK507 := kb gb507 hb; replace HB := bst hb; clear hb hbox hg; have hnb23 := NB513_507.out; have hnc23 := NB507_513.out; obtain ⟨hcz24_0, hcz24_1, hcz24_2, hcz24_3, hfz24_0, hfz24_1, hfz24_2, hfz24_3⟩ := cells4 BK513.out))
            repeat (go_quiet (first | (go_at_call 42; (with_reducible refine (tree_Tree_Input.calls _ _ l0 a1 x35_2 t502 t503 t504 t505 t506 _ ?side1 ?side2 A15.out).mono ?_); (case side1 => exact qC); (case side2 => exact HC0.out); rintro e w18 ⟨rfl, hb⟩; replace HB := bst hb; (try clear hb)) | ((with_reducible refine gd 9 rfl ?_); refine bx 9 #[.int .i64 0, .int .i64 0, .string (⟨#[]⟩ : ByteArray), .int .i64 0] 45 ?_; intro gb507 hg w19 hbox hb; have BK507 := Aside0.mk (hbox); have GW507 := geS hg; have GE507 := geS hg; replace HB := bst hb; clear hb hbox hg; obtain ⟨hcz20_0, hcz20_1, hcz20_2, hcz20_3, hfz20_0, hfz20_1, hfz20_2, hfz20_3⟩ := cells4 BK507.out) | (go_at_call 42; (with_reducible refine (tree_Tree_Input.calls _ _ l0 a2 x35_2 t508 t509 t510 t511 t512 _ ?side1 ?side2 A16.out).mono ?_); (case side1 => exact Kd.C_below HR0.out qB); (case side2 => exact HC0.out); rintro e w21 ⟨rfl, hb⟩; replace BK507 := kp gb507 (.cells #[.int .i64 t502, .int .i64 t503, .string t504, .int .i64 t505] 45 (0, 0)) hb; replace HB := bst hb; (try clear hb)) | ((with_reducible refine gd 11 rfl ?_); refine bx 11 #[.int .i64 0, .int .i64 0, .string (⟨#[]⟩ : ByteArray), .int .i64 0] 45 ?_; intro gb513 hg w22 hbox hb; have BK513 := Aside0.mk (hbox); have GW513 := geS hg; have GE513 := geS hg; have NB507_513 := neS gb507 hg; have NB513_507 := neT gb507 hg; replace BK507 := kb gb507 hb; replace HB := bst hb; clear hb hbox hg; have hnb23 := NB513_507.out; have hnc23 := NB507_513.out; obtain ⟨hcz24_0, hcz24_1, hcz24_2, hcz24_3, hfz24_0, hfz24_1, hfz24_2, hfz24_3⟩ := cells4 BK513.out)); try go_wp2_with (first | (go_at_call 42; (with_reducible refine (tree_Tree_Input.calls _ _ l0 a1 x35_2 t502 t503 t504 t505 t506 _ ?side1 ?side2 A15.out).mono ?_); (case side1 => exact qC); (case side2 => exact HC0.out); rintro e w18 ⟨rfl, hb⟩; replace HB := bst hb; (try clear hb)) | ((with_reducible refine gd 9 rfl ?_); refine bx 9 #[.int .i64 0, .int .i64 0, .string (⟨#[]⟩ : ByteArray), .int .i64 0] 45 ?_; intro gb507 hg w19 hbox hb; have BK507 := Aside0.mk (hbox); have GW507 := geS hg; have GE507 := geS hg; replace HB := bst hb; clear hb hbox hg; obtain ⟨hcz20_0, hcz20_1, hcz20_2, hcz20_3, hfz20_0, hfz20_1, hfz20_2, hfz20_3⟩ := cells4 BK507.out) | (go_at_call 42; (with_reducible refine (tree_Tree_Input.calls _ _ l0 a2 x35_2 t508 t509 t510 t511 t512 _ ?side1 ?side2 A16.out).mono ?_); (case side1 => exact Kd.C_below HR0.out qB); (case side2 => exact HC0.out); rintro e w21 ⟨rfl, hb⟩; replace BK507 := kp gb507 (.cells #[.int .i64 t502, .int .i64 t503, .string t504, .int .i64 t505] 45 (0, 0)) hb; replace HB := bst hb; (try clear hb)) | ((with_reducible refine gd 11 rfl ?_); refine bx 11 #[.int .i64 0, .int .i64 0, .string (⟨#[]⟩ : ByteArray), .int .i64 0] 45 ?_; intro gb513 hg w22 hbox hb; have BK513 := Aside0.mk (hbox); have GW513 := geS hg; have GE513 := geS hg; have NB507_513 := neS gb507 hg; have NB513_507 := neT gb507 hg; replace BK507 := kb gb507 hb; replace HB := bst hb; clear hb hbox hg; have hnb23 := NB513_507.out; have hnc23 := NB507_513.out; obtain ⟨hcz24_0, hcz24_1, hcz24_2, hcz24_3, hfz24_0, hfz24_1, hfz24_2, hfz24_3⟩ := cells4 BK513.out)))
            go_ret
            exact ⟨by first | rfl | (simp [errW_none, errW_some] <;> rfl) | (simp only [← hji13]; first | rfl | (simp [errW_none, errW_some] <;> rfl)) | (simp [*, errW_none, errW_some] <;> rfl), qB⟩
           ·rw [if_neg c17] at H
            have c17b0 : (t506 != t512) = false := by simpa using c17
            (try (have c17b1 : decide (t506 = t512) = true := by simpa using c17))
            (try (have c17b2 : (t506 == t512) = true := by simpa using c17))
            clear c17
            by_cases c25 : (!(t502 == t508) || (!(t503 == t509) || (!(t504.toList == t510.toList) || (!(t505 == t511))))) = true
            ·rw [if_pos c25] at H
             have c25b0 : (!(t502 == t508) || (!(t503 == t509) || (!(t504.toList == t510.toList) || (!(t505 == t511))))) = true := c25
             clear c25
             obtain rfl := Option.some.inj H
             go_wp2_with (first | (go_at_call 42; (with_reducible refine (tree_Tree_Input.calls _ _ l0 a1 x35_2 t502 t503 t504 t505 t506 _ ?side1 ?side2 A15.out).mono ?_); (case side1 => exact qC); (case side2 => exact HC0.out); rintro e w26 ⟨rfl, hb⟩; replace HB := bst hb; (try clear hb)) | ((with_reducible refine gd 9 rfl ?_); refine bx 9 #[.int .i64 0, .int .i64 0, .string (⟨#[]⟩ : ByteArray), .int .i64 0] 45 ?_; intro gb507 hg w27 hbox hb; have BK507 := Aside0.mk (hbox); have GW507 := geS hg; have GE507 := geS hg; replace HB := bst hb; clear hb hbox hg; obtain ⟨hcz28_0, hcz28_1, hcz28_2, hcz28_3, hfz28_0, hfz28_1, hfz28_2, hfz28_3⟩ := cells4 BK507.out) | (go_at_call 42; (with_reducible refine (tree_Tree_Input.calls _ _ l0 a2 x35_2 t508 t509 t510 t511 t512 _ ?side1 ?side2 A16.out).mono ?_); (case side1 => exact Kd.C_below HR0.out qB); (case side2 => exact HC0.out); rintro e w29 ⟨rfl, hb⟩; replace BK507 := kp gb507 (.cells #[.int .i64 t502, .int .i64 t503, .string t504, .int .i64 t505] 45 (0, 0)) hb; replace HB := bst hb; (try clear hb)) | ((with_reducible refine gd 11 rfl ?_); refine bx 11 #[.int .i64 0, .int .i64 0, .string (⟨#[]⟩ : ByteArray), .int .i64 0] 45 ?_; intro gb513 hg w30 hbox hb; have BK513 := Aside0.mk (hbox); have GW513 := geS hg; have GE513 := geS hg; have NB507_513 := neS gb507 hg; have NB513_507 := neT gb507 hg; replace BK507 := kb gb507 hb; replace HB := bst hb; clear hb hbox hg; have hnb31 := NB513_507.out; have hnc31 := NB507_513.out; obtain ⟨hcz32_0, hcz32_1, hcz32_2, hcz32_3, hfz32_0, hfz32_1, hfz32_2, hfz32_3⟩ := cells4 BK513.out; obtain ⟨hcz33_0, hcz33_1, hcz33_2, hcz33_3, hfz33_0, hfz33_1, hfz33_2, hfz33_3⟩ := cells4 BK507.out))
             repeat (go_quiet (first | (go_at_call 42; (with_reducible refine (tree_Tree_Input.calls _ _ l0 a1 x35_2 t502 t503 t504 t505 t506 _ ?side1 ?side2 A15.out).mono ?_); (case side1 => exact qC); (case side2 => exact HC0.out); rintro e w26 ⟨rfl, hb⟩; replace HB := bst hb; (try clear hb)) | ((with_reducible refine gd 9 rfl ?_); refine bx 9 #[.int .i64 0, .int .i64 0, .string (⟨#[]⟩ : ByteArray), .int .i64 0] 45 ?_; intro gb507 hg w27 hbox hb; have BK507 := Aside0.mk (hbox); have GW507 := geS hg; have GE507 := geS hg; replace HB := bst hb; clear hb hbox hg; obtain ⟨hcz28_0, hcz28_1, hcz28_2, hcz28_3, hfz28_0, hfz28_1, hfz28_2, hfz28_3⟩ := cells4 BK507.out) | (go_at_call 42; (with_reducible refine (tree_Tree_Input.calls _ _ l0 a2 x35_2 t508 t509 t510 t511 t512 _ ?side1 ?side2 A16.out).mono ?_); (case side1 => exact Kd.C_below HR0.out qB); (case side2 => exact HC0.out); rintro e w29 ⟨rfl, hb⟩; replace BK507 := kp gb507 (.cells #[.int .i64 t502, .int .i64 t503, .string t504, .int .i64 t505] 45 (0, 0)) hb; replace HB := bst hb; (try clear hb)) | ((with_reducible refine gd 11 rfl ?_); refine bx 11 #[.int .i64 0, .int .i64 0, .string (⟨#[]⟩ : ByteArray), .int .i64 0] 45 ?_; intro gb513 hg w30 hbox hb; have BK513 := Aside0.mk (hbox); have GW513 := geS hg; have GE513 := geS hg; have NB507_513 := neS gb507 hg; have NB513_507 := neT gb507 hg; replace BK507 := kb gb507 hb; replace HB := bst hb; clear hb hbox hg; have hnb31 := NB513_507.out; have hnc31 := NB507_513.out; obtain ⟨hcz32_0, hcz32_1, hcz32_2, hcz32_3, hfz32_0, hfz32_1, hfz32_2, hfz32_3⟩ := cells4 BK513.out; obtain ⟨hcz33_0, hcz33_1, hcz33_2, hcz33_3, hfz33_0, hfz33_1, hfz33_2, hfz33_3⟩ := cells4 BK507.out)); try go_wp2_with (first | (go_at_call 42; (with_reducible refine (tree_Tree_Input.calls _ _ l0 a1 x35_2 t502 t503 t504 t505 t506 _ ?side1 ?side2 A15.out).mono ?_); (case side1 => exact qC); (case side2 => exact HC0.out); rintro e w26 ⟨rfl, hb⟩; replace HB := bst hb; (try clear hb)) | ((with_reducible refine gd 9 rfl ?_); refine bx 9 #[.int .i64 0, .int .i64 0, .string (⟨#[]⟩ : ByteArray), .int .i64 0] 45 ?_; intro gb507 hg w27 hbox hb; have BK507 := Aside0.mk (hbox); have GW507 := geS hg; have GE507 := geS hg; replace HB := bst hb; clear hb hbox hg; obtain ⟨hcz28_0, hcz28_1, hcz28_2, hcz28_3, hfz28_0, hfz28_1, hfz28_2, hfz28_3⟩ := cells4 BK507.out) | (go_at_call 42; (with_reducible refine (tree_Tree_Input.calls _ _ l0 a2 x35_2 t508 t509 t510 t511 t512 _ ?side1 ?side2 A16.out).mono ?_); (case side1 => exact Kd.C_below HR0.out qB); (case side2 => exact HC0.out); rintro e w29 ⟨rfl, hb⟩; replace BK507 := kp gb507 (.cells #[.int .i64 t502, .int .i64 t503, .string t504, .int .i64 t505] 45 (0, 0)) hb; replace HB := bst hb; (try clear hb)) | ((with_reducible refine gd 11 rfl ?_); refine bx 11 #[.int .i64 0, .int .i64 0, .string (⟨#[]⟩ : ByteArray), .int .i64 0] 45 ?_; intro gb513 hg w30 hbox hb; have BK513 := Aside0.mk (hbox); have GW513 := geS hg; have GE513 := geS hg; have NB507_513 := neS gb507 hg; have NB513_507 := neT gb507 hg; replace BK507 := kb gb507 hb; replace HB := bst hb; clear hb hbox hg; have hnb31 := NB513_507.out; have hnc31 := NB507_513.out; obtain ⟨hcz32_0, hcz32_1, hcz32_2, hcz32_3, hfz32_0, hfz32_1, hfz32_2, hfz32_3⟩ := cells4 BK513.out; obtain ⟨hcz33_0, hcz33_1, hcz33_2, hcz33_3, hfz33_0, hfz33_1, hfz33_2, hfz33_3⟩ := cells4 BK507.out)))
             go_ret
             exact ⟨by first | rfl | (simp [errW_none, errW_some] <;> rfl) | (simp only [← hji13]; first | rfl | (simp [errW_none, errW_some] <;> rfl)) | (simp [*, errW_none, errW_some] <;> rfl), qB⟩
            ·rw [if_neg c25] at H
             have c25b0 : (!(t502 == t508) || (!(t503 == t509) || (!(t504.toList == t510.toList) || (!(t505 == t511))))) = false := by simpa using c25
             clear c25
             have H' := Aside0.mk H
             clear H
             go_wp2_with (first | (go_at_call 42; (with_reducible refine (tree_Tree_Input.calls _ _ l0 a1 x35_2 t502 t503 t504 t505 t506 _ ?side1 ?side2 A15.out).mono ?_); (case side1 => exact qC); (case side2 => exact HC0.out); rintro e w34 ⟨rfl, hb⟩; replace HB := bst hb; (try clear hb)) | ((with_reducible refine gd 9 rfl ?_); refine bx 9 #[.int .i64 0, .int .i64 0, .string (⟨#[]⟩ : ByteArray), .int .i64 0] 45 ?_; intro gb507 hg w35 hbox hb; have BK507 := Aside0.mk (hbox); have GW507 := geS hg; have GE507 := geS hg; replace HB := bst hb; clear hb hbox hg; obtain ⟨hcz36_0, hcz36_1, hcz36_2, hcz36_3, hfz36_0, hfz36_1, hfz36_2, hfz36_3⟩ := cells4 BK507.out) | (go_at_call 42; (with_reducible refine (tree_Tree_Input.calls _ _ l0 a2 x35_2 t508 t509 t510 t511 t512 _ ?side1 ?side2 A16.out).mono ?_); (case side1 => exact Kd.C_below HR0.out qB); (case side2 => exact HC0.out); rintro e w37 ⟨rfl, hb⟩; replace BK507 := kp gb507 (.cells #[.int .i64 t502, .int .i64 t503, .string t504, .int .i64 t505] 45 (0, 0)) hb; replace HB := bst hb; (try clear hb)) | ((with_reducible refine gd 11 rfl ?_); refine bx 11 #[.int .i64 0, .int .i64 0, .string (⟨#[]⟩ : ByteArray), .int .i64 0] 45 ?_; intro gb513 hg w38 hbox hb; have BK513 := Aside0.mk (hbox); have GW513 := geS hg; have GE513 := geS hg; have NB507_513 := neS gb507 hg; have NB513_507 := neT gb507 hg; replace BK507 := kb gb507 hb; replace HB := bst hb; clear hb hbox hg; have hnb39 := NB513_507.out; have hnc39 := NB507_513.out; obtain ⟨hcz40_0, hcz40_1, hcz40_2, hcz40_3, hfz40_0, hfz40_1, hfz40_2, hfz40_3⟩ := cells4 BK513.out; obtain ⟨hcz41_0, hcz41_1, hcz41_2, hcz41_3, hfz41_0, hfz41_1, hfz41_2, hfz41_3⟩ := cells4 BK507.out))
             repeat (go_quiet (first | (go_at_call 42; (with_reducible refine (tree_Tree_Input.calls _ _ l0 a1 x35_2 t502 t503 t504 t505 t506 _ ?side1 ?side2 A15.out).mono ?_); (case side1 => exact qC); (case side2 => exact HC0.out); rintro e w34 ⟨rfl, hb⟩; replace HB := bst hb; (try clear hb)) | ((with_reducible refine gd 9 rfl ?_); refine bx 9 #[.int .i64 0, .int .i64 0, .string (⟨#[]⟩ : ByteArray), .int .i64 0] 45 ?_; intro gb507 hg w35 hbox hb; have BK507 := Aside0.mk (hbox); have GW507 := geS hg; have GE507 := geS hg; replace HB := bst hb; clear hb hbox hg; obtain ⟨hcz36_0, hcz36_1, hcz36_2, hcz36_3, hfz36_0, hfz36_1, hfz36_2, hfz36_3⟩ := cells4 BK507.out) | (go_at_call 42; (with_reducible refine (tree_Tree_Input.calls _ _ l0 a2 x35_2 t508 t509 t510 t511 t512 _ ?side1 ?side2 A16.out).mono ?_); (case side1 => exact Kd.C_below HR0.out qB); (case side2 => exact HC0.out); rintro e w37 ⟨rfl, hb⟩; replace BK507 := kp gb507 (.cells #[.int .i64 t502, .int .i64 t503, .string t504, .int .i64 t505] 45 (0, 0)) hb; replace HB := bst hb; (try clear hb)) | ((with_reducible refine gd 11 rfl ?_); refine bx 11 #[.int .i64 0, .int .i64 0, .string (⟨#[]⟩ : ByteArray), .int .i64 0] 45 ?_; intro gb513 hg w38 hbox hb; have BK513 := Aside0.mk (hbox); have GW513 := geS hg; have GE513 := geS hg; have NB507_513 := neS gb507 hg; have NB513_507 := neT gb507 hg; replace BK507 := kb gb507 hb; replace HB := bst hb; clear hb hbox hg; have hnb39 := NB513_507.out; have hnc39 := NB507_513.out; obtain ⟨hcz40_0, hcz40_1, hcz40_2, hcz40_3, hfz40_0, hfz40_1, hfz40_2, hfz40_3⟩ := cells4 BK513.out; obtain ⟨hcz41_0, hcz41_1, hcz41_2, hcz41_3, hfz41_0, hfz41_1, hfz41_2, hfz41_3⟩ := cells4 BK507.out)); try go_wp2_with (first | (go_at_call 42; (with_reducible refine (tree_Tree_Input.calls _ _ l0 a1 x35_2 t502 t503 t504 t505 t506 _ ?side1 ?side2 A15.out).mono ?_); (case side1 => exact qC); (case side2 => exact HC0.out); rintro e w34 ⟨rfl, hb⟩; replace HB := bst hb; (try clear hb)) | ((with_reducible refine gd 9 rfl ?_); refine bx 9 #[.int .i64 0, .int .i64 0, .string (⟨#[]⟩ : ByteArray), .int .i64 0] 45 ?_; intro gb507 hg w35 hbox hb; have BK507 := Aside0.mk (hbox); have GW507 := geS hg; have GE507 := geS hg; replace HB := bst hb; clear hb hbox hg; obtain ⟨hcz36_0, hcz36_1, hcz36_2, hcz36_3, hfz36_0, hfz36_1, hfz36_2, hfz36_3⟩ := cells4 BK507.out) | (go_at_call 42; (with_reducible refine (tree_Tree_Input.calls _ _ l0 a2 x35_2 t508 t509 t510 t511 t512 _ ?side1 ?side2 A16.out).mono ?_); (case side1 => exact Kd.C_below HR0.out qB); (case side2 => exact HC0.out); rintro e w37 ⟨rfl, hb⟩; replace BK507 := kp gb507 (.cells #[.int .i64 t502, .int .i64 t503, .string t504, .int .i64 t505] 45 (0, 0)) hb; replace HB := bst hb; (try clear hb)) | ((with_reducible refine gd 11 rfl ?_); refine bx 11 #[.int .i64 0, .int .i64 0, .string (⟨#[]⟩ : ByteArray), .int .i64 0] 45 ?_; intro gb513 hg w38 hbox hb; have BK513 := Aside0.mk (hbox); have GW513 := geS hg; have GE513 := geS hg; have NB507_513 := neS gb507 hg; have NB513_507 := neT gb507 hg; replace BK507 := kb gb507 hb; replace HB := bst hb; clear hb hbox hg; have hnb39 := NB513_507.out; have hnc39 := NB507_513.out; obtain ⟨hcz40_0, hcz40_1, hcz40_2, hcz40_3, hfz40_0, hfz40_1, hfz40_2, hfz40_3⟩ := cells4 BK513.out; obtain ⟨hcz41_0, hcz41_1, hcz41_2, hcz41_3, hfz41_0, hfz41_1, hfz41_2, hfz41_3⟩ := cells4 BK507.out)))
             go_roundg k2
             case measure => have := HJ3.out; have := HK2.out; omega
             case rel => exact ⟨(wrap64 (x35_2 + 1)), (by first | rfl | (simp; done) | (simp [*]; done)), H', ⟨by have := HJ3.out; have := HK2.out; omega⟩, ⟨qB⟩⟩
          ·obtain rfl := Option.some.inj H
           go_wp2
           repeat (go_quiet (fail); try go_wp2)
           go_ret
           exact ⟨by first | rfl | (simp [errW_none, errW_some] <;> rfl) | (simp only [← hji13]; first | rfl | (simp [errW_none, errW_some] <;> rfl)) | (simp [*, errW_none, errW_some] <;> rfl), qB⟩
       ·rw [if_neg c12] at H
        exact absurd H (by simp)
      ·rw [if_neg c11] at H
       exact absurd H (by simp)
     ·rw [if_neg c10] at H
      exact absurd H (by simp)
    ·rw [if_neg c9] at H
     exact absurd H (by simp)
end Go.Proofs.YtbngfhlciebeeaaDoor.L
