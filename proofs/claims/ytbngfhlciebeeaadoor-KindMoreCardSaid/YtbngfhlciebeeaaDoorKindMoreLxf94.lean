/- Printed and hand-written steps towards the row (KindMore), those that it reaches. -/
import Derived.Test.YtbngfhlciebeeaaDoorKindMoreG4
import Derived.Test.YtbngfhlciebeeaaDoorKindMoreG5
import Derived.Test.YtbngfhlciebeeaaDoorKindMoreG15
import Derived.Test.YtbngfhlciebeeaaDoorKindMoreLxf120
namespace Go.Proofs.YtbngfhlciebeeaaDoor.L
open Go.RowKit Go.Proofs.YtbngfhlciebeeaaDoorW.PrintWords Go.Proofs.YtbngfhlciebeeaaDoorW.PrintLast Go.Proofs.YtbngfhlciebeeaaDoorW.PrintMore
attribute [local go_sem] max2_int min2_int max_two min_two max_three min_three max_four min_four   -- for this text's walks alone
set_option linter.unusedVariables false
set_option linter.unusedSimpArgs false
mutual
def expr_Expr_begins.l0 : Nat → List (S156) → Int → Option (Int)
 | 0, _, _ => none
 | k + 1, x0, x1 => if x1 ≥ 0 then (if x1 < (x0.length : Int) then (if 0 ≤ x1 then ((expr_one.f ((rd_T156 x0 x1).f0)).bind fun t780 => (if t780 = true then (expr_Expr_begins.j1 k x0 x1 true) else ((expr_two.f ((rd_T156 x0 x1).f0)).bind fun t782 => (expr_Expr_begins.j1 k x0 x1 t782)))) else (none)) else (expr_Expr_begins.j1 k x0 x1 false)) else (expr_Expr_begins.j1 k x0 x1 false)
def expr_Expr_begins.j1 : Nat → List (S156) → Int → Bool → Option (Int)
 | 0, _, _, _ => none
 | k + 1, x0, x1, x29 => if x29 = true then (if 0 ≤ x1 then (if x1 < (x0.length : Int) then ((expr_two.f ((rd_T156 x0 x1).f0)).bind fun t785 => (if t785 = true then ((expr_Expr_begins.f k x0 ((rd_T156 x0 x1).f4)).bind fun t786 => (if t786 = (wrap64 (((rd_T156 x0 x1).f3) + 1)) then (expr_Expr_begins.l0 k x0 ((rd_T156 x0 x1).f3)) else (some (-1)))) else (expr_Expr_begins.l0 k x0 ((rd_T156 x0 x1).f3)))) else (none)) else (none)) else (some x1)
def expr_Expr_begins.f : Nat → List (S156) → Int → Option (Int)
 | 0, _, _ => none
 | k + 1, l0, a1 => expr_Expr_begins.l0 k l0 a1
end
def expr_Expr_begins.T3 : Bool × List (List Nat × List Nat) := (true, [([], []), ([0], [0]), ([1], [1]), ([2, 2], [2]), ([3], [3]), ([3], [3]), ([5, 3], [3, 5]), ([4, 6, 3, 3], [3, 4, 6]), ([3], [3]), ([8, 3], [3, 8]), ([9, 3], [3, 9]), ([7, 10, 3], [3, 7, 10]), ([3, 11], [3, 11])])
def expr_Expr_begins.B3 : List Nat := [0, 1, 3, 7, 15, 15, 47, 127, 15, 271, 783, 2047, 4095]
theorem expr_Expr_begins.tab3 : rtab .any (opsOf Tryd.f94 3) = expr_Expr_begins.T3 := by kernel_rfl
theorem expr_Expr_begins.bits3 : waitsOk expr_Expr_begins.T3.2 expr_Expr_begins.B3 = true := by kernel_rfl
set_option maxHeartbeats 8000000 in
set_option maxRecDepth 100000 in
theorem expr_Expr_begins.calls (k : Nat) : ∀ (A0 : Option Addr) (c0 : Nat) (l0 : List (S156)) (a1 : Int) (r : Int) (w : World) (hr0 : Kd.C k156 w A0 l0.length l0) (hc0 : l0.length ≤ c0) (h : expr_Expr_begins.f k l0 a1 = some r),
  Calls Tryd.prog 94 #[.slice A0 l0.length c0, .int .i64 a1] w fun e w' => e = .returned (.int .i64 r) ∧ Below w.heap.size w w' := by
 induction k using Nat.strongRecOn with
 | _ k ih =>
 intro A0 c0 l0 a1 r w hr0 hc0 h
 cases k with
 | zero => exact absurd h (by simp [expr_Expr_begins.f])
 | succ k =>
 simp only [expr_Expr_begins.f] at h
 have hu156 := Tryd.underlying156
 have HR0 := Aside0.mk hr0
 have HC0 := Aside0.mk hc0
 clear hr0 hc0
 have HB := Aside0.mk (Below.refl w.heap.size w)
 have H : (expr_Expr_begins.l0 k l0 a1) = some r := h
 clear h
 have H' := Aside0.mk H
 clear H
 go_enter Tryd.func94, Tryd.ntmps94
 go_wp2
 go_loopg [1] k (fun kq v1 w' => ∃ (x1_1 : Int), v1 = .int .i64 x1_1 ∧ Aside0 (expr_Expr_begins.l0 kq l0 x1_1 = some r) ∧ Aside0 (kq ≤ k) ∧ Aside0 (Below w.heap.size w w'))
 case atStart => exact ⟨(a1), (by first | rfl | (simp; done) | (simp [*]; done)), H', ⟨Nat.le_refl _⟩, ⟨qB⟩⟩
 case round =>
  clear H'
  try clear p2
  obtain ⟨x1_1, rfl, HA, HK1, HB⟩ := hrel
  cases gk with
  | zero => exact absurd HA.out (by simp [expr_Expr_begins.l0])
  | succ k1 =>
   have H := HA.out
   clear HA
   simp only [expr_Expr_begins.l0] at H
   have HC3 := Aside0.mk H
   clear H
   go_upto_region 1 with (fail)
   go_cut [29] (fun v29 wc => ∃ (kq : Nat) (x29_2 : Bool), v29 = .bool x29_2 ∧ Aside0 (expr_Expr_begins.j1 kq l0 x1_1 x29_2 = some r) ∧ Aside0 (kq ≤ k1) ∧ Aside0 (Below w.heap.size w wc))
   case first =>
    have H := HC3.out
    clear HC3
    replace H := iD H
    rcases H with ⟨c4b0, H⟩ | ⟨c4b0, H⟩
    ·(first | rw [c4b0] | (simp only [i64_w, i32_w]; rw [c4b0]) | skip)
     replace H := iD H
     rcases H with ⟨c5b0, H⟩ | ⟨c5b0, H⟩
     ·by_cases c6 : 0 ≤ x1_1
      ·rw [if_pos c6] at H
       have c6b0 := decide_eq_true c6
       clear c6
       replace H := Option.bind_eq_some_iff.mp H
       obtain ⟨t780, A70, H⟩ := H
       (try dsimp -simprocs only at H)
       have A7 := Aside0.mk A70
       clear A70
       by_cases c8 : t780 = true
       ·subst c8
        rw [if_pos rfl] at H
        have H' := Aside0.mk H
        clear H
        have p779 : 0 ≤ (x1_1 : Int) := qD
        have q779 : x1_1 < (l0.length : Int) := qD
        obtain ⟨ad779, e779, hx779_0, hx779_1, hx779_2, hx779_3, hx779_4, hx779_5, hx779_6⟩ := at_T156 (Kd.C_below HR0.out HB.out) x1_1 p779 q779
        cases e779
        replace p779 := eq_true p779
        replace q779 := eq_true q779
        go_wp2_with (first | (go_at_call 119; (with_reducible refine (expr_one.calls ((rd_T156 l0 x1_1).f0) true _ A7.out).mono ?_); rintro e w' ⟨rfl, ⟨nd, rfl⟩⟩))
        go_meet
        case rel => exact ⟨_, (true), (by first | rfl | (simp; done) | (simp [*]; done)), H', ⟨by have := HK1.out; first | omega | exact Nat.le_refl _⟩, ⟨qB⟩⟩
       ·replace c8 := Bool.eq_false_iff.mpr c8
        subst c8
        rw [if_neg (show ¬ (false = true) by decide)] at H
        replace H := Option.bind_eq_some_iff.mp H
        obtain ⟨t782, A90, H⟩ := H
        (try dsimp -simprocs only at H)
        have A9 := Aside0.mk A90
        clear A90
        have H' := Aside0.mk H
        clear H
        have p779 : 0 ≤ (x1_1 : Int) := qD
        have q779 : x1_1 < (l0.length : Int) := qD
        obtain ⟨ad779, e779, hx779_0, hx779_1, hx779_2, hx779_3, hx779_4, hx779_5, hx779_6⟩ := at_T156 (Kd.C_below HR0.out HB.out) x1_1 p779 q779
        cases e779
        replace p779 := eq_true p779
        replace q779 := eq_true q779
        go_wp2_with (first | (go_at_call 119; (with_reducible refine (expr_one.calls ((rd_T156 l0 x1_1).f0) false _ A7.out).mono ?_); rintro e w' ⟨rfl, ⟨nd, rfl⟩⟩; have p781 : 0 ≤ (x1_1 : Int) := qD; have q781 : x1_1 < (l0.length : Int) := qD; obtain ⟨ad781, e781, hx781_0, hx781_1, hx781_2, hx781_3, hx781_4, hx781_5, hx781_6⟩ := at_T156 HR0.out x1_1 p781 q781; obtain rfl : ad779 = ad781 := (by injection e781); replace hx781_0 := pw_cell_below HB.out hx781_0; replace hx781_1 := pw_cell_below HB.out hx781_1; replace hx781_2 := pw_cell_below HB.out hx781_2; replace hx781_3 := pw_cell_below HB.out hx781_3; replace hx781_4 := pw_cell_below HB.out hx781_4; replace hx781_5 := pw_cell_below HB.out hx781_5; replace hx781_6 := pw_cell_below HB.out hx781_6; replace p781 := eq_true p781; replace q781 := eq_true q781) | (go_at_call 120; (with_reducible refine (expr_two.calls ((rd_T156 l0 x1_1).f0) t782 _ A9.out).mono ?_); rintro e w' ⟨rfl, ⟨nd, rfl⟩⟩))
        go_meet
        case rel => exact ⟨_, (t782), (by first | rfl | (simp; done) | (simp [*]; done)), H', ⟨by have := HK1.out; first | omega | exact Nat.le_refl _⟩, ⟨qB⟩⟩
      ·rw [if_neg c6] at H
       exact absurd H (by simp)
     ·have H' := Aside0.mk H
      clear H
      go_wp2
      go_meet
      case rel => exact ⟨_, (false), (by first | rfl | (simp; done) | (simp [*]; done)), H', ⟨by have := HK1.out; first | omega | exact Nat.le_refl _⟩, ⟨qB⟩⟩
    ·(first | rw [c4b0] | (simp only [i64_w, i32_w]; rw [c4b0]) | skip)
     have H' := Aside0.mk H
     clear H
     go_wp2
     go_meet
     case rel => exact ⟨_, (false), (by first | rfl | (simp; done) | (simp [*]; done)), H', ⟨by have := HK1.out; first | omega | exact Nat.le_refl _⟩, ⟨qB⟩⟩
   case rest =>
    clear HC3
    try clear p2 p2
    try clear c4
    try clear c4b0
    try clear c5
    try clear c5b0
    try clear c6
    try clear c6b0
    try clear p7
    try clear q7
    try clear hx7
    try clear c8
    try clear c9
    try clear hx779_0
    try clear hx779_1
    try clear hx779_2
    try clear hx779_3
    try clear hx779_4
    try clear hx779_5
    try clear hx779_6
    try clear hx781_0
    try clear hx781_1
    try clear hx781_2
    try clear hx781_3
    try clear hx781_4
    try clear hx781_5
    try clear hx781_6
    try clear p779
    try clear p781
    try clear q779
    try clear q781
    obtain ⟨kq, x29_2, rfl, HA, HJ2, HB⟩ := hcut
    cases kq with
    | zero => exact absurd HA.out (by simp [expr_Expr_begins.j1])
    | succ kj2 =>
     have H := HA.out
     clear HA
     simp only [expr_Expr_begins.j1] at H
     by_cases c10 : x29_2 = true
     ·subst c10
      rw [if_pos rfl] at H
      replace H := iD H
      rcases H with ⟨c11b0, H⟩ | ⟨c11b0, H⟩
      ·by_cases c12 : x1_1 < (l0.length : Int)
       ·rw [if_pos c12] at H
        have c12b0 := decide_eq_true c12
        clear c12
        replace H := Option.bind_eq_some_iff.mp H
        obtain ⟨t785, A130, H⟩ := H
        (try dsimp -simprocs only at H)
        have A13 := Aside0.mk A130
        clear A130
        by_cases c14 : t785 = true
        ·subst c14
         rw [if_pos rfl] at H
         replace H := Option.bind_eq_some_iff.mp H
         obtain ⟨t786, A150, H⟩ := H
         (try dsimp -simprocs only at H)
         have A15 := Aside0.mk A150
         clear A150
         by_cases c16 : t786 = (wrap64 (((rd_T156 l0 x1_1).f3) + 1))
         ·rw [if_pos c16] at H
          have c16b0 := beq_iff_eq.mpr c16
          have c16b1 := bne_eq_false_iff_eq.mpr c16
          clear c16
          have H' := Aside0.mk H
          clear H
          have p783 : 0 ≤ (x1_1 : Int) := qD
          have q783 : x1_1 < (l0.length : Int) := qD
          obtain ⟨ad783, e783, hx783_0, hx783_1, hx783_2, hx783_3, hx783_4, hx783_5, hx783_6⟩ := at_T156 (Kd.C_below HR0.out HB.out) x1_1 p783 q783
          cases e783
          replace p783 := eq_true p783
          replace q783 := eq_true q783
          try go_wp2_with (first | ((with_reducible refine gate_dst (N := 5) rfl ?_); (try (refine gate_guard (by rfl) ?_; dsimp only)); refine box_event ?hg (N := 5) ?hd (cs := #[.int .i64 0, .int .i64 0, .int .i64 0, .string (⟨#[]⟩ : ByteArray), .string (⟨#[]⟩ : ByteArray), .int .i64 0, .int .i64 0]) (t := 156) ?hr ?_; (case hd => rfl); (case hg => rfl); (case hr => first | (go_simp; done) | (go_simp; rfl)); intro gb784 hg w17 hbox hb; have BK784 := Aside0.mk (hbox); have GW784 := geS hg; have GE784 := geS hg; replace HB := bst hb; clear hb hbox hg; obtain ⟨hcz18_0, hcz18_1, hcz18_2, hcz18_3, hcz18_4, hcz18_5, hcz18_6, hfz18_0, hfz18_1, hfz18_2, hfz18_3, hfz18_4, hfz18_5, hfz18_6⟩ := cells7 BK784.out))
          have n0_ : Aside0 ((((((((w17.setCell ⟨gb784, 0, none⟩ (.int .i64 ((rd_T156 l0 x1_1).f0))).setCell ⟨gb784, 1, none⟩ (.int .i64 ((rd_T156 l0 x1_1).f1.f0))).setCell ⟨gb784, 2, none⟩ (.int .i64 ((rd_T156 l0 x1_1).f1.f1))).setCell ⟨gb784, 3, none⟩ (.string ((rd_T156 l0 x1_1).f1.f2))).setCell ⟨gb784, 4, none⟩ (.string ((rd_T156 l0 x1_1).f2))).setCell ⟨gb784, 5, none⟩ (.int .i64 ((rd_T156 l0 x1_1).f3))).setCell ⟨gb784, 6, none⟩ (.int .i64 ((rd_T156 l0 x1_1).f4))).heap[gb784]? = some (.cells #[.int .i64 ((rd_T156 l0 x1_1).f0), .int .i64 ((rd_T156 l0 x1_1).f1.f0), .int .i64 ((rd_T156 l0 x1_1).f1.f1), .string ((rd_T156 l0 x1_1).f1.f2), .string ((rd_T156 l0 x1_1).f2), .int .i64 ((rd_T156 l0 x1_1).f3), .int .i64 ((rd_T156 l0 x1_1).f4)] 156 (0, 0))) := ⟨qP⟩
          have n1_ : Aside0 (Below w.heap.size w (((((((w17.setCell ⟨gb784, 0, none⟩ (.int .i64 ((rd_T156 l0 x1_1).f0))).setCell ⟨gb784, 1, none⟩ (.int .i64 ((rd_T156 l0 x1_1).f1.f0))).setCell ⟨gb784, 2, none⟩ (.int .i64 ((rd_T156 l0 x1_1).f1.f1))).setCell ⟨gb784, 3, none⟩ (.string ((rd_T156 l0 x1_1).f1.f2))).setCell ⟨gb784, 4, none⟩ (.string ((rd_T156 l0 x1_1).f2))).setCell ⟨gb784, 5, none⟩ (.int .i64 ((rd_T156 l0 x1_1).f3))).setCell ⟨gb784, 6, none⟩ (.int .i64 ((rd_T156 l0 x1_1).f4)))) := ⟨qB⟩
          (try clear BK784)
          (try clear HB)
          generalize (((((((w17.setCell ⟨gb784, 0, none⟩ (.int .i64 ((rd_T156 l0 x1_1).f0))).setCell ⟨gb784, 1, none⟩ (.int .i64 ((rd_T156 l0 x1_1).f1.f0))).setCell ⟨gb784, 2, none⟩ (.int .i64 ((rd_T156 l0 x1_1).f1.f1))).setCell ⟨gb784, 3, none⟩ (.string ((rd_T156 l0 x1_1).f1.f2))).setCell ⟨gb784, 4, none⟩ (.string ((rd_T156 l0 x1_1).f2))).setCell ⟨gb784, 5, none⟩ (.int .i64 ((rd_T156 l0 x1_1).f3))).setCell ⟨gb784, 6, none⟩ (.int .i64 ((rd_T156 l0 x1_1).f4))) = w19 at n0_ n1_ ⊢
          have BK784 := n0_
          have HB := n1_
          clear n0_ n1_
          replace BK784 := Aside0.mk (blk_drew BK784.out)
          replace HB := Aside0.mk (below_drew1 HB.out)
          refine start_ (n := 13) (S := fun w' => w'.cell? ⟨gb784, 0, none⟩ = some (.int .i64 ((rd_T156 l0 x1_1).f0)) ∧ w'.cell? ⟨gb784, 1, none⟩ = some (.int .i64 ((rd_T156 l0 x1_1).f1.f0)) ∧ w'.cell? ⟨gb784, 2, none⟩ = some (.int .i64 ((rd_T156 l0 x1_1).f1.f1)) ∧ w'.cell? ⟨gb784, 3, none⟩ = some (.string ((rd_T156 l0 x1_1).f1.f2)) ∧ w'.cell? ⟨gb784, 4, none⟩ = some (.string ((rd_T156 l0 x1_1).f2)) ∧ w'.cell? ⟨gb784, 5, none⟩ = some (.int .i64 ((rd_T156 l0 x1_1).f3)) ∧ w'.cell? ⟨gb784, 6, none⟩ = some (.int .i64 ((rd_T156 l0 x1_1).f4))) (ds := []) _ (by kernel_rfl) rfl (fls 13) ⟨(blk_cell BK784.out 0).trans rfl, (blk_cell BK784.out 1).trans rfl, (blk_cell BK784.out 2).trans rfl, (blk_cell BK784.out 3).trans rfl, (blk_cell BK784.out 4).trans rfl, (blk_cell BK784.out 5).trans rfl, (blk_cell BK784.out 6).trans rfl⟩ (fun hHeld => ?_); refine with_tabW expr_Expr_begins.tab3 expr_Expr_begins.bits3 (fun HT_ HW_ => ?_)
          generalize w19.drew = w20 at BK784 HB hHeld ⊢
          refine pu 0 34 ?_; refine tk 1 35 ?_
          refine onx 2 36 (fun K hK => ?_)
          refine goes_ Tryd.func120 (by kernel_rfl) rfl #[.int .i64 ((rd_T156 l0 x1_1).f0)] (by rfl) rfl rfl (by (try simp only [List.map_toArray, List.map_cons, List.map_nil]); first | done | rfl | (simp only [List.length_drop, List.length_take]; rfl)) ?_
          with_reducible refine (expr_two.calls ((rd_T156 l0 x1_1).f0) true _ A13.out).mono ?_
          rintro e w' ⟨rfl, ⟨nd, rfl⟩⟩
          refine ⟨_, rfl, ?_⟩
          refine hK.out _ _ ⟨(blk_cell BK784.out 0).trans rfl, (blk_cell BK784.out 1).trans rfl, (blk_cell BK784.out 2).trans rfl, (blk_cell BK784.out 3).trans rfl, (blk_cell BK784.out 4).trans rfl, (blk_cell BK784.out 5).trans rfl, (blk_cell BK784.out 6).trans rfl⟩ (fun hHeld => ?_)
          clear hK K
          refine nm 36 ?_
          refine pu 3 37 ?_; refine pu 4 38 ?_
          refine pu 5 39 ?_; refine pu 8 42 ?_
          refine tk 6 40 ?_; refine tk 9 43 ?_; refine pu 10 44 ?_
          refine onx 7 41 (fun K hK => ?_)
          refine goes_ Tryd.func94 (by kernel_rfl) rfl #[.slice (some ad783) l0.length c0, .int .i64 ((rd_T156 l0 x1_1).f4)] (by rfl) rfl rfl (by (try simp only [List.map_toArray, List.map_cons, List.map_nil]); first | done | rfl | (simp only [List.length_drop, List.length_take]; rfl)) ?_
          with_reducible refine (ih kj2 (by have := HK1.out; have := HJ2.out; omega) _ _ l0 ((rd_T156 l0 x1_1).f4) t786 _ ?side1 ?side2 A15.out).mono ?_
          (case side1 => repeat (first | exact (Kd.C_below HR0.out qB) | (with_reducible refine Kd.C_alloc ?_ _) | (with_reducible refine Kd.C_drewN ?_ _) | (with_reducible refine Kd.C_drew ?_)))
          (case side2 => exact HC0.out)
          rintro e w21 ⟨rfl, hb⟩
          refine ⟨_, rfl, ?_⟩
          replace BK784 := kb gb784 hb
          replace HB := bst hb
          (try clear hb)
          (try clear hb2)
          (try clear hk)
          (try clear hi)
          refine hK.out _ _ ⟨(blk_cell BK784.out 0).trans rfl, (blk_cell BK784.out 1).trans rfl, (blk_cell BK784.out 2).trans rfl, (blk_cell BK784.out 3).trans rfl, (blk_cell BK784.out 4).trans rfl, (blk_cell BK784.out 5).trans rfl, (blk_cell BK784.out 6).trans rfl⟩ (fun hHeld => ?_)
          clear hK K
          refine nm 41 ?_
          refine pu 11 45 ?_; refine pu 12 46 ?_
          refine done_ (done_of HT_.out (by kernel_rfl)) ?_
          obtain ⟨hcz22_0, hcz22_1, hcz22_2, hcz22_3, hcz22_4, hcz22_5, hcz22_6, hfz22_0, hfz22_1, hfz22_2, hfz22_3, hfz22_4, hfz22_5, hfz22_6⟩ := cells7 BK784.out
          try go_wp2
          go_roundg kj2
          case measure => have := HK1.out; have := HJ2.out; omega
          case rel => exact ⟨((rd_T156 l0 x1_1).f3), (by first | rfl | (simp; done) | (simp [*]; done)), H', ⟨by have := HK1.out; have := HJ2.out; omega⟩, ⟨qB⟩⟩
         ·rw [if_neg c16] at H
          have c16b0 := beq_eq_false_iff_ne.mpr c16
          have c16b1 := bne_iff_ne.mpr c16
          obtain rfl := Option.some.inj H
          have p783 : 0 ≤ (x1_1 : Int) := qD
          have q783 : x1_1 < (l0.length : Int) := qD
          obtain ⟨ad783, e783, hx783_0, hx783_1, hx783_2, hx783_3, hx783_4, hx783_5, hx783_6⟩ := at_T156 (Kd.C_below HR0.out HB.out) x1_1 p783 q783
          cases e783
          replace p783 := eq_true p783
          replace q783 := eq_true q783
          try go_wp2_with (first | ((with_reducible refine gate_dst (N := 5) rfl ?_); (try (refine gate_guard (by rfl) ?_; dsimp only)); refine box_event ?hg (N := 5) ?hd (cs := #[.int .i64 0, .int .i64 0, .int .i64 0, .string (⟨#[]⟩ : ByteArray), .string (⟨#[]⟩ : ByteArray), .int .i64 0, .int .i64 0]) (t := 156) ?hr ?_; (case hd => rfl); (case hg => rfl); (case hr => first | (go_simp; done) | (go_simp; rfl)); intro gb784 hg w23 hbox hb; have BK784 := Aside0.mk (hbox); have GW784 := geS hg; have GE784 := geS hg; replace HB := bst hb; clear hb hbox hg; obtain ⟨hcz24_0, hcz24_1, hcz24_2, hcz24_3, hcz24_4, hcz24_5, hcz24_6, hfz24_0, hfz24_1, hfz24_2, hfz24_3, hfz24_4, hfz24_5, hfz24_6⟩ := cells7 BK784.out))
          have n0_ : Aside0 ((((((((w23.setCell ⟨gb784, 0, none⟩ (.int .i64 ((rd_T156 l0 x1_1).f0))).setCell ⟨gb784, 1, none⟩ (.int .i64 ((rd_T156 l0 x1_1).f1.f0))).setCell ⟨gb784, 2, none⟩ (.int .i64 ((rd_T156 l0 x1_1).f1.f1))).setCell ⟨gb784, 3, none⟩ (.string ((rd_T156 l0 x1_1).f1.f2))).setCell ⟨gb784, 4, none⟩ (.string ((rd_T156 l0 x1_1).f2))).setCell ⟨gb784, 5, none⟩ (.int .i64 ((rd_T156 l0 x1_1).f3))).setCell ⟨gb784, 6, none⟩ (.int .i64 ((rd_T156 l0 x1_1).f4))).heap[gb784]? = some (.cells #[.int .i64 ((rd_T156 l0 x1_1).f0), .int .i64 ((rd_T156 l0 x1_1).f1.f0), .int .i64 ((rd_T156 l0 x1_1).f1.f1), .string ((rd_T156 l0 x1_1).f1.f2), .string ((rd_T156 l0 x1_1).f2), .int .i64 ((rd_T156 l0 x1_1).f3), .int .i64 ((rd_T156 l0 x1_1).f4)] 156 (0, 0))) := ⟨qP⟩
          have n1_ : Aside0 (Below w.heap.size w (((((((w23.setCell ⟨gb784, 0, none⟩ (.int .i64 ((rd_T156 l0 x1_1).f0))).setCell ⟨gb784, 1, none⟩ (.int .i64 ((rd_T156 l0 x1_1).f1.f0))).setCell ⟨gb784, 2, none⟩ (.int .i64 ((rd_T156 l0 x1_1).f1.f1))).setCell ⟨gb784, 3, none⟩ (.string ((rd_T156 l0 x1_1).f1.f2))).setCell ⟨gb784, 4, none⟩ (.string ((rd_T156 l0 x1_1).f2))).setCell ⟨gb784, 5, none⟩ (.int .i64 ((rd_T156 l0 x1_1).f3))).setCell ⟨gb784, 6, none⟩ (.int .i64 ((rd_T156 l0 x1_1).f4)))) := ⟨qB⟩
          (try clear BK784)
          (try clear HB)
          generalize (((((((w23.setCell ⟨gb784, 0, none⟩ (.int .i64 ((rd_T156 l0 x1_1).f0))).setCell ⟨gb784, 1, none⟩ (.int .i64 ((rd_T156 l0 x1_1).f1.f0))).setCell ⟨gb784, 2, none⟩ (.int .i64 ((rd_T156 l0 x1_1).f1.f1))).setCell ⟨gb784, 3, none⟩ (.string ((rd_T156 l0 x1_1).f1.f2))).setCell ⟨gb784, 4, none⟩ (.string ((rd_T156 l0 x1_1).f2))).setCell ⟨gb784, 5, none⟩ (.int .i64 ((rd_T156 l0 x1_1).f3))).setCell ⟨gb784, 6, none⟩ (.int .i64 ((rd_T156 l0 x1_1).f4))) = w25 at n0_ n1_ ⊢
          have BK784 := n0_
          have HB := n1_
          clear n0_ n1_
          replace BK784 := Aside0.mk (blk_drew BK784.out)
          replace HB := Aside0.mk (below_drew1 HB.out)
          refine start_ (n := 13) (S := fun w' => w'.cell? ⟨gb784, 0, none⟩ = some (.int .i64 ((rd_T156 l0 x1_1).f0)) ∧ w'.cell? ⟨gb784, 1, none⟩ = some (.int .i64 ((rd_T156 l0 x1_1).f1.f0)) ∧ w'.cell? ⟨gb784, 2, none⟩ = some (.int .i64 ((rd_T156 l0 x1_1).f1.f1)) ∧ w'.cell? ⟨gb784, 3, none⟩ = some (.string ((rd_T156 l0 x1_1).f1.f2)) ∧ w'.cell? ⟨gb784, 4, none⟩ = some (.string ((rd_T156 l0 x1_1).f2)) ∧ w'.cell? ⟨gb784, 5, none⟩ = some (.int .i64 ((rd_T156 l0 x1_1).f3)) ∧ w'.cell? ⟨gb784, 6, none⟩ = some (.int .i64 ((rd_T156 l0 x1_1).f4))) (ds := []) _ (by kernel_rfl) rfl (fls 13) ⟨(blk_cell BK784.out 0).trans rfl, (blk_cell BK784.out 1).trans rfl, (blk_cell BK784.out 2).trans rfl, (blk_cell BK784.out 3).trans rfl, (blk_cell BK784.out 4).trans rfl, (blk_cell BK784.out 5).trans rfl, (blk_cell BK784.out 6).trans rfl⟩ (fun hHeld => ?_); refine with_tabW expr_Expr_begins.tab3 expr_Expr_begins.bits3 (fun HT_ HW_ => ?_)
          generalize w25.drew = w26 at BK784 HB hHeld ⊢
          refine pu 0 34 ?_; refine tk 1 35 ?_
          refine onx 2 36 (fun K hK => ?_)
          refine goes_ Tryd.func120 (by kernel_rfl) rfl #[.int .i64 ((rd_T156 l0 x1_1).f0)] (by rfl) rfl rfl (by (try simp only [List.map_toArray, List.map_cons, List.map_nil]); first | done | rfl | (simp only [List.length_drop, List.length_take]; rfl)) ?_
          with_reducible refine (expr_two.calls ((rd_T156 l0 x1_1).f0) true _ A13.out).mono ?_
          rintro e w' ⟨rfl, ⟨nd, rfl⟩⟩
          refine ⟨_, rfl, ?_⟩
          refine hK.out _ _ ⟨(blk_cell BK784.out 0).trans rfl, (blk_cell BK784.out 1).trans rfl, (blk_cell BK784.out 2).trans rfl, (blk_cell BK784.out 3).trans rfl, (blk_cell BK784.out 4).trans rfl, (blk_cell BK784.out 5).trans rfl, (blk_cell BK784.out 6).trans rfl⟩ (fun hHeld => ?_)
          clear hK K
          refine nm 36 ?_
          refine pu 3 37 ?_; refine pu 4 38 ?_
          refine pu 5 39 ?_; refine pu 8 42 ?_
          refine tk 6 40 ?_; refine tk 9 43 ?_; refine pu 10 44 ?_
          refine onx 7 41 (fun K hK => ?_)
          refine goes_ Tryd.func94 (by kernel_rfl) rfl #[.slice (some ad783) l0.length c0, .int .i64 ((rd_T156 l0 x1_1).f4)] (by rfl) rfl rfl (by (try simp only [List.map_toArray, List.map_cons, List.map_nil]); first | done | rfl | (simp only [List.length_drop, List.length_take]; rfl)) ?_
          with_reducible refine (ih kj2 (by have := HK1.out; have := HJ2.out; omega) _ _ l0 ((rd_T156 l0 x1_1).f4) t786 _ ?side1 ?side2 A15.out).mono ?_
          (case side1 => repeat (first | exact (Kd.C_below HR0.out qB) | (with_reducible refine Kd.C_alloc ?_ _) | (with_reducible refine Kd.C_drewN ?_ _) | (with_reducible refine Kd.C_drew ?_)))
          (case side2 => exact HC0.out)
          rintro e w27 ⟨rfl, hb⟩
          refine ⟨_, rfl, ?_⟩
          replace BK784 := kb gb784 hb
          replace HB := bst hb
          (try clear hb)
          (try clear hb2)
          (try clear hk)
          (try clear hi)
          refine hK.out _ _ ⟨(blk_cell BK784.out 0).trans rfl, (blk_cell BK784.out 1).trans rfl, (blk_cell BK784.out 2).trans rfl, (blk_cell BK784.out 3).trans rfl, (blk_cell BK784.out 4).trans rfl, (blk_cell BK784.out 5).trans rfl, (blk_cell BK784.out 6).trans rfl⟩ (fun hHeld => ?_)
          clear hK K
          refine nm 41 ?_
          refine pu 11 45 ?_; refine pu 12 46 ?_
          refine done_ (done_of HT_.out (by kernel_rfl)) ?_
          try go_wp2
          go_ret
          exact ⟨qR, qB⟩
        ·replace c14 := Bool.eq_false_iff.mpr c14
         subst c14
         rw [if_neg (show ¬ (false = true) by decide)] at H
         have H' := Aside0.mk H
         clear H
         have p783 : 0 ≤ (x1_1 : Int) := qD
         have q783 : x1_1 < (l0.length : Int) := qD
         obtain ⟨ad783, e783, hx783_0, hx783_1, hx783_2, hx783_3, hx783_4, hx783_5, hx783_6⟩ := at_T156 (Kd.C_below HR0.out HB.out) x1_1 p783 q783
         cases e783
         replace p783 := eq_true p783
         replace q783 := eq_true q783
         try go_wp2_with (first | ((with_reducible refine gate_dst (N := 5) rfl ?_); (try (refine gate_guard (by rfl) ?_; dsimp only)); refine box_event ?hg (N := 5) ?hd (cs := #[.int .i64 0, .int .i64 0, .int .i64 0, .string (⟨#[]⟩ : ByteArray), .string (⟨#[]⟩ : ByteArray), .int .i64 0, .int .i64 0]) (t := 156) ?hr ?_; (case hd => rfl); (case hg => rfl); (case hr => first | (go_simp; done) | (go_simp; rfl)); intro gb784 hg w28 hbox hb; have BK784 := Aside0.mk (hbox); have GW784 := geS hg; have GE784 := geS hg; replace HB := bst hb; clear hb hbox hg; obtain ⟨hcz29_0, hcz29_1, hcz29_2, hcz29_3, hcz29_4, hcz29_5, hcz29_6, hfz29_0, hfz29_1, hfz29_2, hfz29_3, hfz29_4, hfz29_5, hfz29_6⟩ := cells7 BK784.out))
         have n0_ : Aside0 ((((((((w28.setCell ⟨gb784, 0, none⟩ (.int .i64 ((rd_T156 l0 x1_1).f0))).setCell ⟨gb784, 1, none⟩ (.int .i64 ((rd_T156 l0 x1_1).f1.f0))).setCell ⟨gb784, 2, none⟩ (.int .i64 ((rd_T156 l0 x1_1).f1.f1))).setCell ⟨gb784, 3, none⟩ (.string ((rd_T156 l0 x1_1).f1.f2))).setCell ⟨gb784, 4, none⟩ (.string ((rd_T156 l0 x1_1).f2))).setCell ⟨gb784, 5, none⟩ (.int .i64 ((rd_T156 l0 x1_1).f3))).setCell ⟨gb784, 6, none⟩ (.int .i64 ((rd_T156 l0 x1_1).f4))).heap[gb784]? = some (.cells #[.int .i64 ((rd_T156 l0 x1_1).f0), .int .i64 ((rd_T156 l0 x1_1).f1.f0), .int .i64 ((rd_T156 l0 x1_1).f1.f1), .string ((rd_T156 l0 x1_1).f1.f2), .string ((rd_T156 l0 x1_1).f2), .int .i64 ((rd_T156 l0 x1_1).f3), .int .i64 ((rd_T156 l0 x1_1).f4)] 156 (0, 0))) := ⟨qP⟩
         have n1_ : Aside0 (Below w.heap.size w (((((((w28.setCell ⟨gb784, 0, none⟩ (.int .i64 ((rd_T156 l0 x1_1).f0))).setCell ⟨gb784, 1, none⟩ (.int .i64 ((rd_T156 l0 x1_1).f1.f0))).setCell ⟨gb784, 2, none⟩ (.int .i64 ((rd_T156 l0 x1_1).f1.f1))).setCell ⟨gb784, 3, none⟩ (.string ((rd_T156 l0 x1_1).f1.f2))).setCell ⟨gb784, 4, none⟩ (.string ((rd_T156 l0 x1_1).f2))).setCell ⟨gb784, 5, none⟩ (.int .i64 ((rd_T156 l0 x1_1).f3))).setCell ⟨gb784, 6, none⟩ (.int .i64 ((rd_T156 l0 x1_1).f4)))) := ⟨qB⟩
         (try clear BK784)
         (try clear HB)
         generalize (((((((w28.setCell ⟨gb784, 0, none⟩ (.int .i64 ((rd_T156 l0 x1_1).f0))).setCell ⟨gb784, 1, none⟩ (.int .i64 ((rd_T156 l0 x1_1).f1.f0))).setCell ⟨gb784, 2, none⟩ (.int .i64 ((rd_T156 l0 x1_1).f1.f1))).setCell ⟨gb784, 3, none⟩ (.string ((rd_T156 l0 x1_1).f1.f2))).setCell ⟨gb784, 4, none⟩ (.string ((rd_T156 l0 x1_1).f2))).setCell ⟨gb784, 5, none⟩ (.int .i64 ((rd_T156 l0 x1_1).f3))).setCell ⟨gb784, 6, none⟩ (.int .i64 ((rd_T156 l0 x1_1).f4))) = w30 at n0_ n1_ ⊢
         have BK784 := n0_
         have HB := n1_
         clear n0_ n1_
         replace BK784 := Aside0.mk (blk_drew BK784.out)
         replace HB := Aside0.mk (below_drew1 HB.out)
         refine start_ (n := 13) (S := fun w' => w'.cell? ⟨gb784, 0, none⟩ = some (.int .i64 ((rd_T156 l0 x1_1).f0)) ∧ w'.cell? ⟨gb784, 1, none⟩ = some (.int .i64 ((rd_T156 l0 x1_1).f1.f0)) ∧ w'.cell? ⟨gb784, 2, none⟩ = some (.int .i64 ((rd_T156 l0 x1_1).f1.f1)) ∧ w'.cell? ⟨gb784, 3, none⟩ = some (.string ((rd_T156 l0 x1_1).f1.f2)) ∧ w'.cell? ⟨gb784, 4, none⟩ = some (.string ((rd_T156 l0 x1_1).f2)) ∧ w'.cell? ⟨gb784, 5, none⟩ = some (.int .i64 ((rd_T156 l0 x1_1).f3)) ∧ w'.cell? ⟨gb784, 6, none⟩ = some (.int .i64 ((rd_T156 l0 x1_1).f4))) (ds := []) _ (by kernel_rfl) rfl (fls 13) ⟨(blk_cell BK784.out 0).trans rfl, (blk_cell BK784.out 1).trans rfl, (blk_cell BK784.out 2).trans rfl, (blk_cell BK784.out 3).trans rfl, (blk_cell BK784.out 4).trans rfl, (blk_cell BK784.out 5).trans rfl, (blk_cell BK784.out 6).trans rfl⟩ (fun hHeld => ?_); refine with_tabW expr_Expr_begins.tab3 expr_Expr_begins.bits3 (fun HT_ HW_ => ?_)
         generalize w30.drew = w31 at BK784 HB hHeld ⊢
         refine pu 0 34 ?_; refine tk 1 35 ?_
         refine onx 2 36 (fun K hK => ?_)
         refine goes_ Tryd.func120 (by kernel_rfl) rfl #[.int .i64 ((rd_T156 l0 x1_1).f0)] (by rfl) rfl rfl (by (try simp only [List.map_toArray, List.map_cons, List.map_nil]); first | done | rfl | (simp only [List.length_drop, List.length_take]; rfl)) ?_
         with_reducible refine (expr_two.calls ((rd_T156 l0 x1_1).f0) false _ A13.out).mono ?_
         rintro e w' ⟨rfl, ⟨nd, rfl⟩⟩
         refine ⟨_, rfl, ?_⟩
         refine hK.out _ _ ⟨(blk_cell BK784.out 0).trans rfl, (blk_cell BK784.out 1).trans rfl, (blk_cell BK784.out 2).trans rfl, (blk_cell BK784.out 3).trans rfl, (blk_cell BK784.out 4).trans rfl, (blk_cell BK784.out 5).trans rfl, (blk_cell BK784.out 6).trans rfl⟩ (fun hHeld => ?_)
         clear hK K
         refine nm 36 ?_
         refine pu 3 37 ?_; refine po 4 38 ?_
         refine po 5 39 ?_; refine po 6 40 ?_
         refine po 7 41 ?_; refine po 8 42 ?_
         refine po 9 43 ?_; refine po 10 44 ?_
         refine po 11 45 ?_; refine pu 12 46 ?_
         refine done_ (done_of HT_.out (by kernel_rfl)) ?_
         obtain ⟨hcz32_0, hcz32_1, hcz32_2, hcz32_3, hcz32_4, hcz32_5, hcz32_6, hfz32_0, hfz32_1, hfz32_2, hfz32_3, hfz32_4, hfz32_5, hfz32_6⟩ := cells7 BK784.out
         try go_wp2
         go_roundg kj2
         case measure => have := HK1.out; have := HJ2.out; omega
         case rel => exact ⟨((rd_T156 l0 x1_1).f3), (by first | rfl | (simp; done) | (simp [*]; done)), H', ⟨by have := HK1.out; have := HJ2.out; omega⟩, ⟨qB⟩⟩
       ·rw [if_neg c12] at H
        exact absurd H (by simp)
      ·exact absurd H (by simp)
     ·replace c10 := Bool.eq_false_iff.mpr c10
      subst c10
      rw [if_neg (show ¬ (false = true) by decide)] at H
      obtain rfl := Option.some.inj H
      go_wp2
      go_ret
      exact ⟨qR, qB⟩
end Go.Proofs.YtbngfhlciebeeaaDoor.L
