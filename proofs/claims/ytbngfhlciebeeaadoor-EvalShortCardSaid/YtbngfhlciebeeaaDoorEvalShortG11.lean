/- Printed and hand-written steps towards the row (EvalShort), those that it reaches. -/
import Derived.Test.YtbngfhlciebeeaaDoorEvalShortG3
import Derived.Test.YtbngfhlciebeeaaDoorEvalShortG4
import Derived.Test.YtbngfhlciebeeaaDoorEvalShortG9
import Derived.Test.YtbngfhlciebeeaaDoorEvalShortG10
import Derived.Test.YtbngfhlciebeeaaDoorEvalShortG8
section
namespace Go.Proofs.YtbngfhlciebeeaaDoor.L
open Go.RowKit Go.Proofs.YtbngfhlciebeeaaDoorW.PrintWords Go.Proofs.YtbngfhlciebeeaaDoorW.PrintLast Go.Proofs.YtbngfhlciebeeaaDoorW.PrintMore
attribute [local go_sem] max2_int min2_int max_two min_two max_three min_three max_four min_four   -- for this text's walks alone
set_option linter.unusedVariables false
set_option linter.unusedSimpArgs false
mutual
def expr_Expr_begins.l0 : Nat → List (S156) → Int → Option (Int)
 | 0, _, _ => none
 | k + 1, x0, x1 => if x1 ≥ 0 then (if x1 < (x0.length : Int) then (if 0 ≤ x1 then ((expr_one.f ((rd_T156 x0 x1).f0)).bind fun t780 => (if t780 = true then (expr_Expr_begins.j1 k x0 x1 true) else ((expr_two.f ((rd_T156 x0 x1).f0)).bind fun t782 => (expr_Expr_begins.j1 k x0 x1 t782)))) else (none)) else (expr_Expr_begins.j1 k x0 x1 false)) else (expr_Expr_begins.j1 k x0 x1 false)
def expr_Expr_begins.j1 : Nat → List (S156) → Int → Bool → Option (Int)
 | 0, _, _, _ => none
 | k + 1, x0, x1, x29 => if x29 = true then (if 0 ≤ x1 then (if x1 < (x0.length : Int) then ((expr_two.f ((rd_T156 x0 x1).f0)).bind fun t785 => (if t785 = true then ((expr_Expr_begins.f k x0 ((rd_T156 x0 x1).f4)).bind fun t786 => (if t786 = (wrap64 (((rd_T156 x0 x1).f3) + 1)) then (expr_Expr_begins.l0 k x0 ((rd_T156 x0 x1).f3)) else (some (-1)))) else (expr_Expr_begins.l0 k x0 ((rd_T156 x0 x1).f3)))) else (none)) else (none)) else (some x1)
def expr_Expr_begins.f : Nat → List (S156) → Int → Option (Int)
 | 0, _, _ => none
 | k + 1, l0, a1 => expr_Expr_begins.l0 k l0 a1
end
def expr_Expr_begins.T3 : Bool × List (List Nat × List Nat) := (true, [([], []), ([0], [0]), ([1], [1]), ([2, 2], [2]), ([3], [3]), ([3], [3]), ([5, 3], [3, 5]), ([4, 6, 3, 3], [3, 4, 6]), ([3], [3]), ([8, 3], [3, 8]), ([9, 3], [3, 9]), ([7, 10, 3], [3, 7, 10]), ([3, 11], [3, 11])])
def expr_Expr_begins.B3 : List Nat := [0, 1, 3, 7, 15, 15, 47, 127, 15, 271, 783, 2047, 4095]
theorem expr_Expr_begins.tab3 : rtab .any (opsOf Tryd.f94 3) = expr_Expr_begins.T3 := by kernel_rfl
theorem expr_Expr_begins.bits3 : waitsOk expr_Expr_begins.T3.2 expr_Expr_begins.B3 = true := by kernel_rfl
set_option maxHeartbeats 8000000 in
set_option maxRecDepth 100000 in
theorem expr_Expr_begins.calls (k : Nat) : ∀ (A0 : Option Addr) (c0 : Nat) (l0 : List (S156)) (a1 : Int) (r : Int) (w : World) (hr0 : Kd.C k156 w A0 l0.length l0) (hc0 : l0.length ≤ c0) (h : expr_Expr_begins.f k l0 a1 = some r),
  Calls Tryd.prog 94 #[.slice A0 l0.length c0, .int .i64 a1] w fun e w' => e = .returned (.int .i64 r) ∧ Below w.heap.size w w' := by
 induction k using Nat.strongRecOn with
 | _ k ih =>
 intro A0 c0 l0 a1 r w hr0 hc0 h
 cases k with
 | zero => exact absurd h (by simp [expr_Expr_begins.f])
 | succ k =>
 simp only [expr_Expr_begins.f] at h
 have hu156 := Tryd.underlying156
 have HR0 := Aside0.mk hr0
 have HC0 := Aside0.mk hc0
 clear hr0 hc0
 have HB := Aside0.mk (Below.refl w.heap.size w)
 have H : (expr_Expr_begins.l0 k l0 a1) = some r := h
 clear h
 have H' := Aside0.mk H
 clear H
 go_enter Tryd.func94, Tryd.ntmps94
 go_wp2
 go_loopg [1] k (fun kq v1 w' => ∃ (x1_1 : Int), v1 = .int .i64 x1_1 ∧ Aside0 (expr_Expr_begins.l0 kq l0 x1_1 = some r) ∧ Aside0 (kq ≤ k) ∧ Aside0 (Below w.heap.size w w'))
 case atStart => exact ⟨(a1), qE, H', ⟨Nat.le_refl _⟩, ⟨qB⟩⟩
 case round =>
  clear H'
  try clear p2
  obtain ⟨x1_1, rfl, HA, HK1, HB⟩ := hrel
  cases gk with
  | zero => exact absurd HA.out (by simp [expr_Expr_begins.l0])
  | succ k1 =>
   have H := HA.out
   clear HA
   simp only [expr_Expr_begins.l0] at H
   have HC3 := Aside0.mk H
   clear H
   go_upto_region 1 with (fail)
   go_cut [29] (fun v29 wc => ∃ (kq : Nat) (x29_2 : Bool), v29 = .bool x29_2 ∧ Aside0 (expr_Expr_begins.j1 kq l0 x1_1 x29_2 = some r) ∧ Aside0 (kq ≤ k1) ∧ Aside0 (Below w.heap.size w wc))
   case first =>
    have H := HC3.out
    clear HC3
    replace H := iD H
    rcases H with ⟨c4b0, H⟩ | ⟨c4b0, H⟩
    ·(first | rw [c4b0] | (simp only [i64_w, i32_w]; rw [c4b0]) | skip); replace H := iD H
     rcases H with ⟨c5b0, H⟩ | ⟨c5b0, H⟩
     ·by_cases c6 : 0 ≤ x1_1
      ·rw [if_pos c6] at H; have c6b0 := decide_eq_true c6; clear c6; replace H := Option.bind_eq_some_iff.mp H; obtain ⟨t780, A70, H⟩ := H; (try dsimp -simprocs only at H); have A7 := Aside0.mk A70; clear A70
       by_cases c8 : t780 = true
       ·subst c8; rw [if_pos rfl] at H; have H' := Aside0.mk H; clear H; have p779 : 0 ≤ (x1_1 : Int) := qD; have q779 : x1_1 < (l0.length : Int) := qD; obtain ⟨ad779, e779, hx779_0, hx779_1, hx779_2, hx779_3, hx779_4, hx779_5, hx779_6⟩ := at_T156 (Kd.C_below HR0.out HB.out) x1_1 p779 q779; cases e779; replace p779 := eq_true p779; replace q779 := eq_true q779
        go_wp2_with (first | (go_at_call 119; (with_reducible refine (expr_one.calls ((rd_T156 l0 x1_1).f0) true _ A7.out).mono ?_); rintro e w' ⟨rfl, ⟨nd, rfl⟩⟩))
        go_meet
        case rel => exact ⟨_, (true), qE, H', ⟨by have := HK1.out; first | omega | exact Nat.le_refl _⟩, ⟨qB⟩⟩
       replace c8 := Bool.eq_false_iff.mpr c8; subst c8; rw [if_neg (show ¬ (false = true) by decide)] at H; replace H := Option.bind_eq_some_iff.mp H; obtain ⟨t782, A90, H⟩ := H; (try dsimp -simprocs only at H); have A9 := Aside0.mk A90; clear A90; have H' := Aside0.mk H; clear H; have p779 : 0 ≤ (x1_1 : Int) := qD; have q779 : x1_1 < (l0.length : Int) := qD; obtain ⟨ad779, e779, hx779_0, hx779_1, hx779_2, hx779_3, hx779_4, hx779_5, hx779_6⟩ := at_T156 (Kd.C_below HR0.out HB.out) x1_1 p779 q779; cases e779; replace p779 := eq_true p779; replace q779 := eq_true q779
       go_wp2_with (first | (go_at_call 119; (with_reducible refine (expr_one.calls ((rd_T156 l0 x1_1).f0) false _ A7.out).mono ?_); rintro e w' ⟨rfl, ⟨nd, rfl⟩⟩; have p781 : 0 ≤ (x1_1 : Int) := qD; have q781 : x1_1 < (l0.length : Int) := qD; obtain ⟨ad781, e781, hx781_0, hx781_1, hx781_2, hx781_3, hx781_4, hx781_5, hx781_6⟩ := at_T156 HR0.out x1_1 p781 q781; obtain rfl : ad779 = ad781 := (by injection e781); replace hx781_0 := pw_cell_below HB.out hx781_0; replace hx781_1 := pw_cell_below HB.out hx781_1; replace hx781_2 := pw_cell_below HB.out hx781_2; replace hx781_3 := pw_cell_below HB.out hx781_3; replace hx781_4 := pw_cell_below HB.out hx781_4; replace hx781_5 := pw_cell_below HB.out hx781_5; replace hx781_6 := pw_cell_below HB.out hx781_6; replace p781 := eq_true p781; replace q781 := eq_true q781) | (go_at_call 120; (with_reducible refine (expr_two.calls ((rd_T156 l0 x1_1).f0) t782 _ A9.out).mono ?_); rintro e w' ⟨rfl, ⟨nd, rfl⟩⟩))
       go_meet
       case rel => exact ⟨_, (t782), qE, H', ⟨by have := HK1.out; first | omega | exact Nat.le_refl _⟩, ⟨qB⟩⟩
      rw [if_neg c6] at H; exact absurd H (by simp)
     have H' := Aside0.mk H; clear H
     go_wp2
     go_meet
     case rel => exact ⟨_, (false), qE, H', ⟨by have := HK1.out; first | omega | exact Nat.le_refl _⟩, ⟨qB⟩⟩
    (first | rw [c4b0] | (simp only [i64_w, i32_w]; rw [c4b0]) | skip)
    have H' := Aside0.mk H
    clear H
    go_wp2
    go_meet
    case rel => exact ⟨_, (false), qE, H', ⟨by have := HK1.out; first | omega | exact Nat.le_refl _⟩, ⟨qB⟩⟩
   case rest =>
    clear HC3
    try clear p2 p2
    try clear p7
    try clear q7
    try clear hx7
    try clear hx779_0
    try clear hx779_1
    try clear hx779_2
    try clear hx779_3
    try clear hx779_4
    try clear hx779_5
    try clear hx779_6
    try clear hx781_0
    try clear hx781_1
    try clear hx781_2
    try clear hx781_3
    try clear hx781_4
    try clear hx781_5
    try clear hx781_6
    try clear p779
    try clear p781
    try clear q779
    try clear q781
    obtain ⟨kq, x29_2, rfl, HA, HJ2, HB⟩ := hcut
    cases kq with
    | zero => exact absurd HA.out (by simp [expr_Expr_begins.j1])
    | succ kj2 =>
     have H := HA.out; clear HA; simp only [expr_Expr_begins.j1] at H
     by_cases c10 : x29_2 = true
     ·subst c10; rw [if_pos rfl] at H; replace H := iD H
      rcases H with ⟨c11b0, H⟩ | ⟨c11b0, H⟩
      ·by_cases c12 : x1_1 < (l0.length : Int)
       ·rw [if_pos c12] at H; have c12b0 := decide_eq_true c12; clear c12; replace H := Option.bind_eq_some_iff.mp H; obtain ⟨t785, A130, H⟩ := H; (try dsimp -simprocs only at H); have A13 := Aside0.mk A130; clear A130
        by_cases c14 : t785 = true
        ·subst c14; rw [if_pos rfl] at H; replace H := Option.bind_eq_some_iff.mp H; obtain ⟨t786, A150, H⟩ := H; (try dsimp -simprocs only at H); have A15 := Aside0.mk A150; clear A150
         by_cases c16 : t786 = (wrap64 (((rd_T156 l0 x1_1).f3) + 1))
         ·rw [if_pos c16] at H; have c16b0 := beq_iff_eq.mpr c16; have c16b1 := bne_eq_false_iff_eq.mpr c16; clear c16; have H' := Aside0.mk H; clear H; have p783 : 0 ≤ (x1_1 : Int) := qD; have q783 : x1_1 < (l0.length : Int) := qD; obtain ⟨ad783, e783, hx783_0, hx783_1, hx783_2, hx783_3, hx783_4, hx783_5, hx783_6⟩ := at_T156 (Kd.C_below HR0.out HB.out) x1_1 p783 q783; cases e783; replace p783 := eq_true p783; replace q783 := eq_true q783
          try go_wp2_with (first | ((with_reducible refine gate_dst (N := 5) rfl ?_); (try (refine gate_guard (by rfl) ?_; dsimp only)); refine box_event ?hg (N := 5) ?hd (cs := #[.int .i64 0, .int .i64 0, .int .i64 0, .string (⟨#[]⟩ : ByteArray), .string (⟨#[]⟩ : ByteArray), .int .i64 0, .int .i64 0]) (t := 156) ?hr ?_; (case hd => rfl); (case hg => rfl); (case hr => first | (go_simp; done) | (go_simp; rfl)); intro gb784 hg w17 hbox hb; have BK784 := Aside0.mk (hbox); have GW784 := geS hg; have GE784 := geS hg; replace HB := bst hb; clear hb hbox hg; obtain ⟨_, _, _, _, _, _, _, _, _, _, _, _, _, _⟩ := cells7 BK784.out))
          have n0_ : Aside0 ((((((((w17.setCell ⟨gb784, 0, none⟩ (.int .i64 ((rd_T156 l0 x1_1).f0))).setCell ⟨gb784, 1, none⟩ (.int .i64 ((rd_T156 l0 x1_1).f1.f0))).setCell ⟨gb784, 2, none⟩ (.int .i64 ((rd_T156 l0 x1_1).f1.f1))).setCell ⟨gb784, 3, none⟩ (.string ((rd_T156 l0 x1_1).f1.f2))).setCell ⟨gb784, 4, none⟩ (.string ((rd_T156 l0 x1_1).f2))).setCell ⟨gb784, 5, none⟩ (.int .i64 ((rd_T156 l0 x1_1).f3))).setCell ⟨gb784, 6, none⟩ (.int .i64 ((rd_T156 l0 x1_1).f4))).heap[gb784]? = some (.cells #[.int .i64 ((rd_T156 l0 x1_1).f0), .int .i64 ((rd_T156 l0 x1_1).f1.f0), .int .i64 ((rd_T156 l0 x1_1).f1.f1), .string ((rd_T156 l0 x1_1).f1.f2), .string ((rd_T156 l0 x1_1).f2), .int .i64 ((rd_T156 l0 x1_1).f3), .int .i64 ((rd_T156 l0 x1_1).f4)] 156 (0, 0))) := ⟨qP⟩; have n1_ : Aside0 (Below w.heap.size w (((((((w17.setCell ⟨gb784, 0, none⟩ (.int .i64 ((rd_T156 l0 x1_1).f0))).setCell ⟨gb784, 1, none⟩ (.int .i64 ((rd_T156 l0 x1_1).f1.f0))).setCell ⟨gb784, 2, none⟩ (.int .i64 ((rd_T156 l0 x1_1).f1.f1))).setCell ⟨gb784, 3, none⟩ (.string ((rd_T156 l0 x1_1).f1.f2))).setCell ⟨gb784, 4, none⟩ (.string ((rd_T156 l0 x1_1).f2))).setCell ⟨gb784, 5, none⟩ (.int .i64 ((rd_T156 l0 x1_1).f3))).setCell ⟨gb784, 6, none⟩ (.int .i64 ((rd_T156 l0 x1_1).f4)))) := ⟨qB⟩; (try clear BK784); (try clear HB)
          generalize (((((((w17.setCell ⟨gb784, 0, none⟩ (.int .i64 ((rd_T156 l0 x1_1).f0))).setCell ⟨gb784, 1, none⟩ (.int .i64 ((rd_T156 l0 x1_1).f1.f0))).setCell ⟨gb784, 2, none⟩ (.int .i64 ((rd_T156 l0 x1_1).f1.f1))).setCell ⟨gb784, 3, none⟩ (.string ((rd_T156 l0 x1_1).f1.f2))).setCell ⟨gb784, 4, none⟩ (.string ((rd_T156 l0 x1_1).f2))).setCell ⟨gb784, 5, none⟩ (.int .i64 ((rd_T156 l0 x1_1).f3))).setCell ⟨gb784, 6, none⟩ (.int .i64 ((rd_T156 l0 x1_1).f4))) = w19 at n0_ n1_ ⊢
          have BK784 := n0_; have HB := n1_; clear n0_ n1_; replace BK784 := Aside0.mk (blk_drew BK784.out); replace HB := Aside0.mk (below_drew1 HB.out); refine start_ (n := 13) (S := fun w' => w'.cell? ⟨gb784, 0, none⟩ = some (.int .i64 ((rd_T156 l0 x1_1).f0)) ∧ w'.cell? ⟨gb784, 1, none⟩ = some (.int .i64 ((rd_T156 l0 x1_1).f1.f0)) ∧ w'.cell? ⟨gb784, 2, none⟩ = some (.int .i64 ((rd_T156 l0 x1_1).f1.f1)) ∧ w'.cell? ⟨gb784, 3, none⟩ = some (.string ((rd_T156 l0 x1_1).f1.f2)) ∧ w'.cell? ⟨gb784, 4, none⟩ = some (.string ((rd_T156 l0 x1_1).f2)) ∧ w'.cell? ⟨gb784, 5, none⟩ = some (.int .i64 ((rd_T156 l0 x1_1).f3)) ∧ w'.cell? ⟨gb784, 6, none⟩ = some (.int .i64 ((rd_T156 l0 x1_1).f4))) (ds := []) _ (by kernel_rfl) rfl (fls 13) ⟨(blk_cell BK784.out 0).trans rfl, (blk_cell BK784.out 1).trans rfl, (blk_cell BK784.out 2).trans rfl, (blk_cell BK784.out 3).trans rfl, (blk_cell BK784.out 4).trans rfl, (blk_cell BK784.out 5).trans rfl, (blk_cell BK784.out 6).trans rfl⟩ (fun hHeld => ?_); refine with_tabW expr_Expr_begins.tab3 expr_Expr_begins.bits3 (fun HT_ HW_ => ?_)
          generalize w19.drew = w20 at BK784 HB hHeld ⊢
          refine pu 0 34 ?_; refine tk 1 35 ?_; refine onx 2 36 (fun K hK => ?_); refine goes_ Tryd.func120 (by kernel_rfl) rfl #[.int .i64 ((rd_T156 l0 x1_1).f0)] (by rfl) rfl rfl (by (try simp only [List.map_toArray, List.map_cons, List.map_nil]); first | done | rfl | (simp only [List.length_drop, List.length_take]; rfl)) ?_
          with_reducible refine (expr_two.calls ((rd_T156 l0 x1_1).f0) true _ A13.out).mono ?_
          rintro e w' ⟨rfl, ⟨nd, rfl⟩⟩; refine ⟨_, rfl, ?_⟩; refine hK.out _ _ ⟨(blk_cell BK784.out 0).trans rfl, (blk_cell BK784.out 1).trans rfl, (blk_cell BK784.out 2).trans rfl, (blk_cell BK784.out 3).trans rfl, (blk_cell BK784.out 4).trans rfl, (blk_cell BK784.out 5).trans rfl, (blk_cell BK784.out 6).trans rfl⟩ (fun hHeld => ?_); clear hK K; refine nm 36 ?_; refine pu 3 37 ?_; refine pu 4 38 ?_; refine pu 5 39 ?_; refine pu 8 42 ?_; refine tk 6 40 ?_; refine tk 9 43 ?_; refine pu 10 44 ?_; refine onx 7 41 (fun K hK => ?_); refine goes_ Tryd.func94 (by kernel_rfl) rfl #[.slice (some ad783) l0.length c0, .int .i64 ((rd_T156 l0 x1_1).f4)] (by rfl) rfl rfl (by (try simp only [List.map_toArray, List.map_cons, List.map_nil]); first | done | rfl | (simp only [List.length_drop, List.length_take]; rfl)) ?_
          with_reducible refine (ih kj2 (by have := HK1.out; have := HJ2.out; omega) _ _ l0 ((rd_T156 l0 x1_1).f4) t786 _ ?side1 ?side2 A15.out).mono ?_
          (case side1 => repeat (first | exact (Kd.C_below HR0.out qB) | (with_reducible refine Kd.C_alloc ?_ _) | (with_reducible refine Kd.C_drewN ?_ _) | (with_reducible refine Kd.C_drew ?_))); (case side2 => exact HC0.out); rintro e w21 ⟨rfl, hb⟩; refine ⟨_, rfl, ?_⟩; replace BK784 := kb gb784 hb; replace HB := bst hb; (try clear hb); (try clear hb2); (try clear hk); (try clear hi); refine hK.out _ _ ⟨(blk_cell BK784.out 0).trans rfl, (blk_cell BK784.out 1).trans rfl, (blk_cell BK784.out 2).trans rfl, (blk_cell BK784.out 3).trans rfl, (blk_cell BK784.out 4).trans rfl, (blk_cell BK784.out 5).trans rfl, (blk_cell BK784.out 6).trans rfl⟩ (fun hHeld => ?_); clear hK K; refine nm 41 ?_; refine pu 11 45 ?_; refine pu 12 46 ?_; refine done_ (done_of HT_.out (by kernel_rfl)) ?_; obtain ⟨_, _, _, _, _, _, _, _, _, _, _, _, _, _⟩ := cells7 BK784.out
          try go_wp2
          go_roundg kj2
          case measure => have := HK1.out; have := HJ2.out; omega
          case rel => exact ⟨((rd_T156 l0 x1_1).f3), qE, H', ⟨by have := HK1.out; have := HJ2.out; omega⟩, ⟨qB⟩⟩
         rw [if_neg c16] at H; have c16b0 := beq_eq_false_iff_ne.mpr c16; have c16b1 := bne_iff_ne.mpr c16; obtain rfl := Option.some.inj H; have p783 : 0 ≤ (x1_1 : Int) := qD; have q783 : x1_1 < (l0.length : Int) := qD; obtain ⟨ad783, e783, hx783_0, hx783_1, hx783_2, hx783_3, hx783_4, hx783_5, hx783_6⟩ := at_T156 (Kd.C_below HR0.out HB.out) x1_1 p783 q783; cases e783; replace p783 := eq_true p783; replace q783 := eq_true q783
         try go_wp2_with (first | ((with_reducible refine gate_dst (N := 5) rfl ?_); (try (refine gate_guard (by rfl) ?_; dsimp only)); refine box_event ?hg (N := 5) ?hd (cs := #[.int .i64 0, .int .i64 0, .int .i64 0, .string (⟨#[]⟩ : ByteArray), .string (⟨#[]⟩ : ByteArray), .int .i64 0, .int .i64 0]) (t := 156) ?hr ?_; (case hd => rfl); (case hg => rfl); (case hr => first | (go_simp; done) | (go_simp; rfl)); intro gb784 hg w23 hbox hb; have BK784 := Aside0.mk (hbox); have GW784 := geS hg; have GE784 := geS hg; replace HB := bst hb; clear hb hbox hg; obtain ⟨_, _, _, _, _, _, _, _, _, _, _, _, _, _⟩ := cells7 BK784.out))
         have n0_ : Aside0 ((((((((w23.setCell ⟨gb784, 0, none⟩ (.int .i64 ((rd_T156 l0 x1_1).f0))).setCell ⟨gb784, 1, none⟩ (.int .i64 ((rd_T156 l0 x1_1).f1.f0))).setCell ⟨gb784, 2, none⟩ (.int .i64 ((rd_T156 l0 x1_1).f1.f1))).setCell ⟨gb784, 3, none⟩ (.string ((rd_T156 l0 x1_1).f1.f2))).setCell ⟨gb784, 4, none⟩ (.string ((rd_T156 l0 x1_1).f2))).setCell ⟨gb784, 5, none⟩ (.int .i64 ((rd_T156 l0 x1_1).f3))).setCell ⟨gb784, 6, none⟩ (.int .i64 ((rd_T156 l0 x1_1).f4))).heap[gb784]? = some (.cells #[.int .i64 ((rd_T156 l0 x1_1).f0), .int .i64 ((rd_T156 l0 x1_1).f1.f0), .int .i64 ((rd_T156 l0 x1_1).f1.f1), .string ((rd_T156 l0 x1_1).f1.f2), .string ((rd_T156 l0 x1_1).f2), .int .i64 ((rd_T156 l0 x1_1).f3), .int .i64 ((rd_T156 l0 x1_1).f4)] 156 (0, 0))) := ⟨qP⟩; have n1_ : Aside0 (Below w.heap.size w (((((((w23.setCell ⟨gb784, 0, none⟩ (.int .i64 ((rd_T156 l0 x1_1).f0))).setCell ⟨gb784, 1, none⟩ (.int .i64 ((rd_T156 l0 x1_1).f1.f0))).setCell ⟨gb784, 2, none⟩ (.int .i64 ((rd_T156 l0 x1_1).f1.f1))).setCell ⟨gb784, 3, none⟩ (.string ((rd_T156 l0 x1_1).f1.f2))).setCell ⟨gb784, 4, none⟩ (.string ((rd_T156 l0 x1_1).f2))).setCell ⟨gb784, 5, none⟩ (.int .i64 ((rd_T156 l0 x1_1).f3))).setCell ⟨gb784, 6, none⟩ (.int .i64 ((rd_T156 l0 x1_1).f4)))) := ⟨qB⟩; (try clear BK784); (try clear HB)
         generalize (((((((w23.setCell ⟨gb784, 0, none⟩ (.int .i64 ((rd_T156 l0 x1_1).f0))).setCell ⟨gb784, 1, none⟩ (.int .i64 ((rd_T156 l0 x1_1).f1.f0))).setCell ⟨gb784, 2, none⟩ (.int .i64 ((rd_T156 l0 x1_1).f1.f1))).setCell ⟨gb784, 3, none⟩ (.string ((rd_T156 l0 x1_1).f1.f2))).setCell ⟨gb784, 4, none⟩ (.string ((rd_T156 l0 x1_1).f2))).setCell ⟨gb784, 5, none⟩ (.int .i64 ((rd_T156 l0 x1_1).f3))).setCell ⟨gb784, 6, none⟩ (.int .i64 ((rd_T156 l0 x1_1).f4))) = w25 at n0_ n1_ ⊢
         have BK784 := n0_; have HB := n1_; clear n0_ n1_; replace BK784 := Aside0.mk (blk_drew BK784.out); replace HB := Aside0.mk (below_drew1 HB.out); refine start_ (n := 13) (S := fun w' => w'.cell? ⟨gb784, 0, none⟩ = some (.int .i64 ((rd_T156 l0 x1_1).f0)) ∧ w'.cell? ⟨gb784, 1, none⟩ = some (.int .i64 ((rd_T156 l0 x1_1).f1.f0)) ∧ w'.cell? ⟨gb784, 2, none⟩ = some (.int .i64 ((rd_T156 l0 x1_1).f1.f1)) ∧ w'.cell? ⟨gb784, 3, none⟩ = some (.string ((rd_T156 l0 x1_1).f1.f2)) ∧ w'.cell? ⟨gb784, 4, none⟩ = some (.string ((rd_T156 l0 x1_1).f2)) ∧ w'.cell? ⟨gb784, 5, none⟩ = some (.int .i64 ((rd_T156 l0 x1_1).f3)) ∧ w'.cell? ⟨gb784, 6, none⟩ = some (.int .i64 ((rd_T156 l0 x1_1).f4))) (ds := []) _ (by kernel_rfl) rfl (fls 13) ⟨(blk_cell BK784.out 0).trans rfl, (blk_cell BK784.out 1).trans rfl, (blk_cell BK784.out 2).trans rfl, (blk_cell BK784.out 3).trans rfl, (blk_cell BK784.out 4).trans rfl, (blk_cell BK784.out 5).trans rfl, (blk_cell BK784.out 6).trans rfl⟩ (fun hHeld => ?_); refine with_tabW expr_Expr_begins.tab3 expr_Expr_begins.bits3 (fun HT_ HW_ => ?_)
         generalize w25.drew = w26 at BK784 HB hHeld ⊢
         refine pu 0 34 ?_; refine tk 1 35 ?_; refine onx 2 36 (fun K hK => ?_); refine goes_ Tryd.func120 (by kernel_rfl) rfl #[.int .i64 ((rd_T156 l0 x1_1).f0)] (by rfl) rfl rfl (by (try simp only [List.map_toArray, List.map_cons, List.map_nil]); first | done | rfl | (simp only [List.length_drop, List.length_take]; rfl)) ?_
         with_reducible refine (expr_two.calls ((rd_T156 l0 x1_1).f0) true _ A13.out).mono ?_
         rintro e w' ⟨rfl, ⟨nd, rfl⟩⟩; refine ⟨_, rfl, ?_⟩; refine hK.out _ _ ⟨(blk_cell BK784.out 0).trans rfl, (blk_cell BK784.out 1).trans rfl, (blk_cell BK784.out 2).trans rfl, (blk_cell BK784.out 3).trans rfl, (blk_cell BK784.out 4).trans rfl, (blk_cell BK784.out 5).trans rfl, (blk_cell BK784.out 6).trans rfl⟩ (fun hHeld => ?_); clear hK K; refine nm 36 ?_; refine pu 3 37 ?_; refine pu 4 38 ?_; refine pu 5 39 ?_; refine pu 8 42 ?_; refine tk 6 40 ?_; refine tk 9 43 ?_; refine pu 10 44 ?_; refine onx 7 41 (fun K hK => ?_); refine goes_ Tryd.func94 (by kernel_rfl) rfl #[.slice (some ad783) l0.length c0, .int .i64 ((rd_T156 l0 x1_1).f4)] (by rfl) rfl rfl (by (try simp only [List.map_toArray, List.map_cons, List.map_nil]); first | done | rfl | (simp only [List.length_drop, List.length_take]; rfl)) ?_
         with_reducible refine (ih kj2 (by have := HK1.out; have := HJ2.out; omega) _ _ l0 ((rd_T156 l0 x1_1).f4) t786 _ ?side1 ?side2 A15.out).mono ?_
         (case side1 => repeat (first | exact (Kd.C_below HR0.out qB) | (with_reducible refine Kd.C_alloc ?_ _) | (with_reducible refine Kd.C_drewN ?_ _) | (with_reducible refine Kd.C_drew ?_))); (case side2 => exact HC0.out); rintro e w27 ⟨rfl, hb⟩; refine ⟨_, rfl, ?_⟩; replace BK784 := kb gb784 hb; replace HB := bst hb; (try clear hb); (try clear hb2); (try clear hk); (try clear hi); refine hK.out _ _ ⟨(blk_cell BK784.out 0).trans rfl, (blk_cell BK784.out 1).trans rfl, (blk_cell BK784.out 2).trans rfl, (blk_cell BK784.out 3).trans rfl, (blk_cell BK784.out 4).trans rfl, (blk_cell BK784.out 5).trans rfl, (blk_cell BK784.out 6).trans rfl⟩ (fun hHeld => ?_); clear hK K; refine nm 41 ?_; refine pu 11 45 ?_; refine pu 12 46 ?_; refine done_ (done_of HT_.out (by kernel_rfl)) ?_
         try go_wp2
         go_ret; exact ⟨qR, qB⟩
        replace c14 := Bool.eq_false_iff.mpr c14; subst c14; rw [if_neg (show ¬ (false = true) by decide)] at H; have H' := Aside0.mk H; clear H; have p783 : 0 ≤ (x1_1 : Int) := qD; have q783 : x1_1 < (l0.length : Int) := qD; obtain ⟨ad783, e783, hx783_0, hx783_1, hx783_2, hx783_3, hx783_4, hx783_5, hx783_6⟩ := at_T156 (Kd.C_below HR0.out HB.out) x1_1 p783 q783; cases e783; replace p783 := eq_true p783; replace q783 := eq_true q783
        try go_wp2_with (first | ((with_reducible refine gate_dst (N := 5) rfl ?_); (try (refine gate_guard (by rfl) ?_; dsimp only)); refine box_event ?hg (N := 5) ?hd (cs := #[.int .i64 0, .int .i64 0, .int .i64 0, .string (⟨#[]⟩ : ByteArray), .string (⟨#[]⟩ : ByteArray), .int .i64 0, .int .i64 0]) (t := 156) ?hr ?_; (case hd => rfl); (case hg => rfl); (case hr => first | (go_simp; done) | (go_simp; rfl)); intro gb784 hg w28 hbox hb; have BK784 := Aside0.mk (hbox); have GW784 := geS hg; have GE784 := geS hg; replace HB := bst hb; clear hb hbox hg; obtain ⟨_, _, _, _, _, _, _, _, _, _, _, _, _, _⟩ := cells7 BK784.out))
        have n0_ : Aside0 ((((((((w28.setCell ⟨gb784, 0, none⟩ (.int .i64 ((rd_T156 l0 x1_1).f0))).setCell ⟨gb784, 1, none⟩ (.int .i64 ((rd_T156 l0 x1_1).f1.f0))).setCell ⟨gb784, 2, none⟩ (.int .i64 ((rd_T156 l0 x1_1).f1.f1))).setCell ⟨gb784, 3, none⟩ (.string ((rd_T156 l0 x1_1).f1.f2))).setCell ⟨gb784, 4, none⟩ (.string ((rd_T156 l0 x1_1).f2))).setCell ⟨gb784, 5, none⟩ (.int .i64 ((rd_T156 l0 x1_1).f3))).setCell ⟨gb784, 6, none⟩ (.int .i64 ((rd_T156 l0 x1_1).f4))).heap[gb784]? = some (.cells #[.int .i64 ((rd_T156 l0 x1_1).f0), .int .i64 ((rd_T156 l0 x1_1).f1.f0), .int .i64 ((rd_T156 l0 x1_1).f1.f1), .string ((rd_T156 l0 x1_1).f1.f2), .string ((rd_T156 l0 x1_1).f2), .int .i64 ((rd_T156 l0 x1_1).f3), .int .i64 ((rd_T156 l0 x1_1).f4)] 156 (0, 0))) := ⟨qP⟩; have n1_ : Aside0 (Below w.heap.size w (((((((w28.setCell ⟨gb784, 0, none⟩ (.int .i64 ((rd_T156 l0 x1_1).f0))).setCell ⟨gb784, 1, none⟩ (.int .i64 ((rd_T156 l0 x1_1).f1.f0))).setCell ⟨gb784, 2, none⟩ (.int .i64 ((rd_T156 l0 x1_1).f1.f1))).setCell ⟨gb784, 3, none⟩ (.string ((rd_T156 l0 x1_1).f1.f2))).setCell ⟨gb784, 4, none⟩ (.string ((rd_T156 l0 x1_1).f2))).setCell ⟨gb784, 5, none⟩ (.int .i64 ((rd_T156 l0 x1_1).f3))).setCell ⟨gb784, 6, none⟩ (.int .i64 ((rd_T156 l0 x1_1).f4)))) := ⟨qB⟩; (try clear BK784); (try clear HB)
        generalize (((((((w28.setCell ⟨gb784, 0, none⟩ (.int .i64 ((rd_T156 l0 x1_1).f0))).setCell ⟨gb784, 1, none⟩ (.int .i64 ((rd_T156 l0 x1_1).f1.f0))).setCell ⟨gb784, 2, none⟩ (.int .i64 ((rd_T156 l0 x1_1).f1.f1))).setCell ⟨gb784, 3, none⟩ (.string ((rd_T156 l0 x1_1).f1.f2))).setCell ⟨gb784, 4, none⟩ (.string ((rd_T156 l0 x1_1).f2))).setCell ⟨gb784, 5, none⟩ (.int .i64 ((rd_T156 l0 x1_1).f3))).setCell ⟨gb784, 6, none⟩ (.int .i64 ((rd_T156 l0 x1_1).f4))) = w30 at n0_ n1_ ⊢
        have BK784 := n0_; have HB := n1_; clear n0_ n1_; replace BK784 := Aside0.mk (blk_drew BK784.out); replace HB := Aside0.mk (below_drew1 HB.out); refine start_ (n := 13) (S := fun w' => w'.cell? ⟨gb784, 0, none⟩ = some (.int .i64 ((rd_T156 l0 x1_1).f0)) ∧ w'.cell? ⟨gb784, 1, none⟩ = some (.int .i64 ((rd_T156 l0 x1_1).f1.f0)) ∧ w'.cell? ⟨gb784, 2, none⟩ = some (.int .i64 ((rd_T156 l0 x1_1).f1.f1)) ∧ w'.cell? ⟨gb784, 3, none⟩ = some (.string ((rd_T156 l0 x1_1).f1.f2)) ∧ w'.cell? ⟨gb784, 4, none⟩ = some (.string ((rd_T156 l0 x1_1).f2)) ∧ w'.cell? ⟨gb784, 5, none⟩ = some (.int .i64 ((rd_T156 l0 x1_1).f3)) ∧ w'.cell? ⟨gb784, 6, none⟩ = some (.int .i64 ((rd_T156 l0 x1_1).f4))) (ds := []) _ (by kernel_rfl) rfl (fls 13) ⟨(blk_cell BK784.out 0).trans rfl, (blk_cell BK784.out 1).trans rfl, (blk_cell BK784.out 2).trans rfl, (blk_cell BK784.out 3).trans rfl, (blk_cell BK784.out 4).trans rfl, (blk_cell BK784.out 5).trans rfl, (blk_cell BK784.out 6).trans rfl⟩ (fun hHeld => ?_); refine with_tabW expr_Expr_begins.tab3 expr_Expr_begins.bits3 (fun HT_ HW_ => ?_)
        generalize w30.drew = w31 at BK784 HB hHeld ⊢
        refine pu 0 34 ?_; refine tk 1 35 ?_; refine onx 2 36 (fun K hK => ?_); refine goes_ Tryd.func120 (by kernel_rfl) rfl #[.int .i64 ((rd_T156 l0 x1_1).f0)] (by rfl) rfl rfl (by (try simp only [List.map_toArray, List.map_cons, List.map_nil]); first | done | rfl | (simp only [List.length_drop, List.length_take]; rfl)) ?_
        with_reducible refine (expr_two.calls ((rd_T156 l0 x1_1).f0) false _ A13.out).mono ?_
        rintro e w' ⟨rfl, ⟨nd, rfl⟩⟩; refine ⟨_, rfl, ?_⟩; refine hK.out _ _ ⟨(blk_cell BK784.out 0).trans rfl, (blk_cell BK784.out 1).trans rfl, (blk_cell BK784.out 2).trans rfl, (blk_cell BK784.out 3).trans rfl, (blk_cell BK784.out 4).trans rfl, (blk_cell BK784.out 5).trans rfl, (blk_cell BK784.out 6).trans rfl⟩ (fun hHeld => ?_); clear hK K; refine nm 36 ?_; refine pu 3 37 ?_; refine po 4 38 ?_; refine po 5 39 ?_; refine po 6 40 ?_; refine po 7 41 ?_; refine po 8 42 ?_; refine po 9 43 ?_; refine po 10 44 ?_; refine po 11 45 ?_; refine pu 12 46 ?_; refine done_ (done_of HT_.out (by kernel_rfl)) ?_; obtain ⟨_, _, _, _, _, _, _, _, _, _, _, _, _, _⟩ := cells7 BK784.out
        try go_wp2
        go_roundg kj2
        case measure => have := HK1.out; have := HJ2.out; omega
        case rel => exact ⟨((rd_T156 l0 x1_1).f3), qE, H', ⟨by have := HK1.out; have := HJ2.out; omega⟩, ⟨qB⟩⟩
       rw [if_neg c12] at H; exact absurd H (by simp)
      exact absurd H (by simp)
     replace c10 := Bool.eq_false_iff.mpr c10; subst c10; rw [if_neg (show ¬ (false = true) by decide)] at H; obtain rfl := Option.some.inj H
     go_wp2
     go_ret; exact ⟨qR, qB⟩
mutual
def expr_Expr_Right.j0 : Nat → List (S156) → Bool → Option (Bool)
 | 0, _, _ => none
 | k + 1, x0, x12 => if x12 = true then (some false) else (expr_Expr_Right.l0 k x0 x0 (x0.length : Int) 0)
def expr_Expr_Right.l0 : Nat → List (S156) → List (S156) → Int → Int → Option (Bool)
 | 0, _, _, _, _ => none
 | k + 1, x0, x13, x14, x15 => if x15 < x14 then (if 0 ≤ x15 then (if x15 < (x13.length : Int) then ((expr_Node_right.f k ((rd_T156 x13 x15).f0) ((rd_T156 x13 x15).f1.f0) ((rd_T156 x13 x15).f1.f1) ((rd_T156 x13 x15).f1.f2) ((rd_T156 x13 x15).f2) ((rd_T156 x13 x15).f3) ((rd_T156 x13 x15).f4) x15).bind fun t789 => (if t789 = true then (expr_Expr_Right.l0 k x0 x13 x14 (wrap64 (x15 + 1))) else (some false))) else (none)) else (none)) else ((expr_Expr_begins.f k x0 (wrap64 ((x0.length : Int) - 1))).bind fun t790 => (if t790 = 0 then ((expr_Expr_Size.f k x0).bind fun t791 => (some (t791 == 0))) else (some false)))
end
def expr_Expr_Right.f (k : Nat) (l0 : List (S156)) : Option (Bool) := if (l0.length : Int) = 0 then (expr_Expr_Right.j0 k l0 true) else (expr_Expr_Right.j0 k l0 (decide ((l0.length : Int) > 32)))
set_option maxHeartbeats 8000000 in
set_option maxRecDepth 100000 in
theorem expr_Expr_Right.calls (k : Nat) (A0 : Option Addr) (c0 : Nat) (l0 : List (S156)) (r : Bool) (w : World) (hr0 : Kd.C k156 w A0 l0.length l0) (hc0 : l0.length ≤ c0) (hL : Laid w) (h : expr_Expr_Right.f k l0 = some r) :
  Calls Tryd.prog 58 #[.slice A0 l0.length c0] w fun e w' => e = .returned (.bool r) ∧ Below w.heap.size w w' := by
 have hu156 := Tryd.underlying156
 have HR0 := Aside0.mk hr0
 have HC0 := Aside0.mk hc0
 clear hr0 hc0
 have HB := Aside0.mk (Below.refl w.heap.size w)
 have HLD := Aside0.mk hL
 clear hL
 have H : (if (l0.length : Int) = 0 then (expr_Expr_Right.j0 k l0 true) else (expr_Expr_Right.j0 k l0 (decide ((l0.length : Int) > 32)))) = some r := h
 clear h
 have HC2 := Aside0.mk H
 clear H
 go_enter Tryd.func58, Tryd.ntmps58
 go_upto_region 1 with (fail)
 go_cut [12] (fun v12 wc => ∃ (kq : Nat) (x12_1 : Bool), v12 = .bool x12_1 ∧ Aside0 (expr_Expr_Right.j0 kq l0 x12_1 = some r) ∧ Aside0 (kq ≤ k) ∧ Aside0 (Below w.heap.size w wc))
 case first =>
  have H := HC2.out
  clear HC2
  by_cases c3 : (l0.length : Int) = 0
  ·rw [if_pos c3] at H
   have c3b0 := beq_iff_eq.mpr c3
   have c3b1 := bne_eq_false_iff_eq.mpr c3
   clear c3
   (first | rw [c3b0] | (simp only [i64_w, i32_w]; rw [c3b0]) | skip)
   have H' := Aside0.mk H
   clear H
   go_wp2
   go_meet
   case rel => exact ⟨_, (true), qE, H', ⟨by first | omega | exact Nat.le_refl _⟩, ⟨qB⟩⟩
  rw [if_neg c3] at H
  have c3b0 := beq_eq_false_iff_ne.mpr c3
  have c3b1 := bne_iff_ne.mpr c3
  have c3b2 : ¬ (l0 = []) := fun h_ => c3 (by rw [h_]; rfl)
  (first | rw [c3b0] | (simp only [i64_w, i32_w]; rw [c3b0]) | skip)
  have H' := Aside0.mk H
  clear H
  go_wp2
  go_meet
  case rel => exact ⟨_, (decide ((l0.length : Int) > 32)), qE, H', ⟨by first | omega | exact Nat.le_refl _⟩, ⟨qB⟩⟩
 case rest =>
  clear HC2
  try clear p2
  obtain ⟨kq, x12_1, rfl, HA, HJ1, HB⟩ := hcut
  cases kq with
  | zero => exact absurd HA.out (by simp [expr_Expr_Right.j0])
  | succ kj1 =>
   have H := HA.out
   clear HA
   simp only [expr_Expr_Right.j0] at H
   by_cases c4 : x12_1 = true
   ·subst c4
    rw [if_pos rfl] at H
    obtain rfl := Option.some.inj H
    go_wp2
    go_ret
    exact ⟨qR, qB⟩
   replace c4 := Bool.eq_false_iff.mpr c4
   subst c4
   rw [if_neg (show ¬ (false = true) by decide)] at H
   have H' := Aside0.mk H
   clear H
   go_wp2
   go_loopg [15] kj1 (fun kq v15 w' => ∃ (x15_2 : Int), v15 = .int .i64 x15_2 ∧ Aside0 (expr_Expr_Right.l0 kq l0 l0 (l0.length : Int) x15_2 = some r) ∧ Aside0 (kq ≤ kj1) ∧ Aside0 (Below w.heap.size w w'))
   case atStart => exact ⟨(0), qE, H', ⟨Nat.le_refl _⟩, ⟨qB⟩⟩
   case round =>
    clear H'
    try clear p2 p2
    obtain ⟨x15_2, rfl, HA, HK2, HB⟩ := hrel
    cases gk with
    | zero => exact absurd HA.out (by simp [expr_Expr_Right.l0])
    | succ k2 =>
     have H := HA.out; clear HA; simp only [expr_Expr_Right.l0] at H; replace H := iD H
     rcases H with ⟨c5b0, H⟩ | ⟨c5b0, H⟩
     ·by_cases c6 : 0 ≤ x15_2
      ·rw [if_pos c6] at H; have c6b0 := decide_eq_true c6; clear c6; replace H := iD H
       rcases H with ⟨c7b0, H⟩ | ⟨c7b0, H⟩
       ·replace H := Option.bind_eq_some_iff.mp H; obtain ⟨t789, A80, H⟩ := H; (try dsimp -simprocs only at H); have A8 := Aside0.mk A80; clear A80
        by_cases c9 : t789 = true
        ·subst c9; rw [if_pos rfl] at H; have H' := Aside0.mk H; clear H; have p787 : 0 ≤ (x15_2 : Int) := qD; have q787 : x15_2 < (l0.length : Int) := qD; obtain ⟨ad787, e787, hx787_0, hx787_1, hx787_2, hx787_3, hx787_4, hx787_5, hx787_6⟩ := at_T156 (Kd.C_below HR0.out HB.out) x15_2 p787 q787; cases e787; replace p787 := eq_true p787; replace q787 := eq_true q787
         go_wp2_with (first | ((with_reducible refine gate_dst (N := 4) rfl ?_); (try (refine gate_guard (by rfl) ?_; dsimp only)); refine box_event ?hg (N := 4) ?hd (cs := #[.int .i64 0, .int .i64 0, .int .i64 0, .string (⟨#[]⟩ : ByteArray), .string (⟨#[]⟩ : ByteArray), .int .i64 0, .int .i64 0]) (t := 156) ?hr ?_; (case hd => rfl); (case hg => rfl); (case hr => first | (go_simp; done) | (go_simp; rfl)); intro gb788 hg w10 hbox hb; have BK788 := Aside0.mk (hbox); have GW788 := geS hg; have GE788 := geS hg; replace HB := bst hb; clear hb hbox hg; obtain ⟨_, _, _, _, _, _, _, _, _, _, _, _, _, _⟩ := cells7 BK788.out) | ((with_reducible refine gc 93 rfl ?_); refine gl (some 22) #[.agg #[.int .i64 ((rd_T156 l0 x15_2).f0), .int .i64 ((rd_T156 l0 x15_2).f1.f0), .int .i64 ((rd_T156 l0 x15_2).f1.f1), .string ((rd_T156 l0 x15_2).f1.f2), .string ((rd_T156 l0 x15_2).f2), .int .i64 ((rd_T156 l0 x15_2).f3), .int .i64 ((rd_T156 l0 x15_2).f4)], .int .i64 x15_2] Tryd.func93 ?_; (with_reducible refine (expr_Node_right.calls k2 ((rd_T156 l0 x15_2).f0) ((rd_T156 l0 x15_2).f1.f0) ((rd_T156 l0 x15_2).f1.f1) ((rd_T156 l0 x15_2).f1.f2) ((rd_T156 l0 x15_2).f2) ((rd_T156 l0 x15_2).f3) ((rd_T156 l0 x15_2).f4) x15_2 true _ ?side1 A8.out).mono ?_); (case side1 => exact Laid.below HLD.out qB); rintro e w12 ⟨rfl, hb⟩; refine ⟨_, rfl, ?_⟩; replace BK788 := kp gb788 (.cells #[.int .i64 ((rd_T156 l0 x15_2).f0), .int .i64 ((rd_T156 l0 x15_2).f1.f0), .int .i64 ((rd_T156 l0 x15_2).f1.f1), .string ((rd_T156 l0 x15_2).f1.f2), .string ((rd_T156 l0 x15_2).f2), .int .i64 ((rd_T156 l0 x15_2).f3), .int .i64 ((rd_T156 l0 x15_2).f4)] 156 (0, 0)) hb; replace HB := bst hb; (try clear hb)))
         go_roundg k2
         case measure => have := HJ1.out; have := HK2.out; omega
         case rel => exact ⟨(wrap64 (x15_2 + 1)), qE, H', ⟨by have := HJ1.out; have := HK2.out; omega⟩, ⟨qB⟩⟩
        replace c9 := Bool.eq_false_iff.mpr c9; subst c9; rw [if_neg (show ¬ (false = true) by decide)] at H; obtain rfl := Option.some.inj H; have p787 : 0 ≤ (x15_2 : Int) := qD; have q787 : x15_2 < (l0.length : Int) := qD; obtain ⟨ad787, e787, hx787_0, hx787_1, hx787_2, hx787_3, hx787_4, hx787_5, hx787_6⟩ := at_T156 (Kd.C_below HR0.out HB.out) x15_2 p787 q787; cases e787; replace p787 := eq_true p787; replace q787 := eq_true q787
        go_wp2_with (first | ((with_reducible refine gate_dst (N := 4) rfl ?_); (try (refine gate_guard (by rfl) ?_; dsimp only)); refine box_event ?hg (N := 4) ?hd (cs := #[.int .i64 0, .int .i64 0, .int .i64 0, .string (⟨#[]⟩ : ByteArray), .string (⟨#[]⟩ : ByteArray), .int .i64 0, .int .i64 0]) (t := 156) ?hr ?_; (case hd => rfl); (case hg => rfl); (case hr => first | (go_simp; done) | (go_simp; rfl)); intro gb788 hg w13 hbox hb; have BK788 := Aside0.mk (hbox); have GW788 := geS hg; have GE788 := geS hg; replace HB := bst hb; clear hb hbox hg; obtain ⟨_, _, _, _, _, _, _, _, _, _, _, _, _, _⟩ := cells7 BK788.out) | ((with_reducible refine gc 93 rfl ?_); refine gl (some 22) #[.agg #[.int .i64 ((rd_T156 l0 x15_2).f0), .int .i64 ((rd_T156 l0 x15_2).f1.f0), .int .i64 ((rd_T156 l0 x15_2).f1.f1), .string ((rd_T156 l0 x15_2).f1.f2), .string ((rd_T156 l0 x15_2).f2), .int .i64 ((rd_T156 l0 x15_2).f3), .int .i64 ((rd_T156 l0 x15_2).f4)], .int .i64 x15_2] Tryd.func93 ?_; (with_reducible refine (expr_Node_right.calls k2 ((rd_T156 l0 x15_2).f0) ((rd_T156 l0 x15_2).f1.f0) ((rd_T156 l0 x15_2).f1.f1) ((rd_T156 l0 x15_2).f1.f2) ((rd_T156 l0 x15_2).f2) ((rd_T156 l0 x15_2).f3) ((rd_T156 l0 x15_2).f4) x15_2 false _ ?side1 A8.out).mono ?_); (case side1 => exact Laid.below HLD.out qB); rintro e w15 ⟨rfl, hb⟩; refine ⟨_, rfl, ?_⟩; replace BK788 := kp gb788 (.cells #[.int .i64 ((rd_T156 l0 x15_2).f0), .int .i64 ((rd_T156 l0 x15_2).f1.f0), .int .i64 ((rd_T156 l0 x15_2).f1.f1), .string ((rd_T156 l0 x15_2).f1.f2), .string ((rd_T156 l0 x15_2).f2), .int .i64 ((rd_T156 l0 x15_2).f3), .int .i64 ((rd_T156 l0 x15_2).f4)] 156 (0, 0)) hb; replace HB := bst hb; (try clear hb)))
        go_ret; exact ⟨qR, qB⟩
       exact absurd H (by simp)
      rw [if_neg c6] at H; exact absurd H (by simp)
     replace H := Option.bind_eq_some_iff.mp H; obtain ⟨t790, A160, H⟩ := H; (try dsimp -simprocs only at H); have A16 := Aside0.mk A160; clear A160
     by_cases c17 : t790 = 0
     ·rw [if_pos c17] at H; have c17b0 := beq_iff_eq.mpr c17; have c17b1 := bne_eq_false_iff_eq.mpr c17; clear c17; replace H := Option.bind_eq_some_iff.mp H; obtain ⟨t791, A180, H⟩ := H; (try dsimp -simprocs only at H); have A18 := Aside0.mk A180; clear A180; obtain rfl := Option.some.inj H
      go_wp2_with (first | ((with_reducible refine gc 94 rfl ?_); refine gl (some 29) #[.slice A0 l0.length c0, .int .i64 (wrap64 ((l0.length : Int) - 1))] Tryd.func94 ?_; (with_reducible refine (expr_Expr_begins.calls k2 _ _ l0 (wrap64 ((l0.length : Int) - 1)) t790 _ ?side1 ?side2 A16.out).mono ?_); (case side1 => exact qC); (case side2 => exact HC0.out); rintro e w19 ⟨rfl, hb⟩; refine ⟨_, rfl, ?_⟩; replace HB := bst hb; (try clear hb)) | (go_at_call 95; (with_reducible refine (expr_Expr_Size.calls k2 _ _ l0 t791 _ ?side1 ?side2 A18.out).mono ?_); (case side1 => exact qC); (case side2 => exact HC0.out); rintro e w20 ⟨rfl, hb⟩; replace HB := bst hb; (try clear hb)))
      go_ret; exact ⟨qR, qB⟩
     rw [if_neg c17] at H; have c17b0 := beq_eq_false_iff_ne.mpr c17; have c17b1 := bne_iff_ne.mpr c17; obtain rfl := Option.some.inj H
     go_wp2_with (first | ((with_reducible refine gc 94 rfl ?_); refine gl (some 29) #[.slice A0 l0.length c0, .int .i64 (wrap64 ((l0.length : Int) - 1))] Tryd.func94 ?_; (with_reducible refine (expr_Expr_begins.calls k2 _ _ l0 (wrap64 ((l0.length : Int) - 1)) t790 _ ?side1 ?side2 A16.out).mono ?_); (case side1 => exact qC); (case side2 => exact HC0.out); rintro e w21 ⟨rfl, hb⟩; refine ⟨_, rfl, ?_⟩; replace HB := bst hb; (try clear hb)))
     go_ret; exact ⟨qR, qB⟩
end Go.Proofs.YtbngfhlciebeeaaDoor.L
end
section
namespace Go.Proofs.YtbngfhlciebeeaaDoor.Sp
set_option linter.unusedVariables false
set_option linter.unusedSimpArgs false
open Go.RowKit Go.Proofs.YtbngfhlciebeeaaDoorW.PrintWords Go.Proofs.YtbngfhlciebeeaaDoorW.PrintMore Go.Proofs.YtbngfhlciebeeaaDoor.L
theorem one_eq (x : Int) : expr_one.f x = some (decide (x = 1 ∨ x = 2)) := by
  unfold expr_one.f
  by_cases h : x = 1
  · rw [if_pos h, decide_eq_true (Or.inl h)]
  · rw [if_neg h]
    by_cases h2 : x = 2
    · rw [decide_eq_true (Or.inr h2), beq_iff_eq.2 h2]
    · rw [decide_eq_false (fun e => e.elim h h2), beq_eq_false_iff_ne.2 h2]
theorem two_eq (x : Int) : expr_two.f x = some (decide (3 ≤ x ∧ x ≤ 15)) := by
  unfold expr_two.f
  by_cases h : x ≥ 3
  · rw [if_pos h]
    by_cases h2 : x ≤ 15
    · rw [decide_eq_true h2, decide_eq_true ⟨h, h2⟩]
    · rw [decide_eq_false h2, decide_eq_false (fun e => h2 e.2)]
  · rw [if_neg h, decide_eq_false (fun e => h e.1)]
def Link (x : S156) (i : Int) : Prop := 1 ≤ x.f0 → x.f0 ≤ 15 → 0 ≤ x.f3 ∧ x.f3 < i ∧ (3 ≤ x.f0 → x.f4 = i - 1)
theorem rd156 {l : List S156} {j : Nat} (h : j < l.length) : rd_T156 l (j : Int) = l[j] := by
  unfold rd_T156
  rw [Int.toNat_natCast, List.getD_eq_getElem?_getD, List.getElem?_eq_getElem h]
  rfl
theorem up1 {j : Nat} (h : j ≤ 1000000000000000) : wrap64 ((j : Int) + 1) = ((j + 1 : Nat) : Int) := by rw [wrap_at (by omega) (by omega)]; omega
theorem depths_l0 (l : List S156) (hl : l.length ≤ 1000) (hL : ∀ (j : Nat) (h : j < l.length), Link l[j] j) : ∀ (d j : Nat) (ds : List Int), j ≤ l.length → l.length - j = d → ds.length = l.length →
    ∃ ys, Ev (fun k => expr_Expr_depths.l0 k ds l (l.length : Int) (j : Int)) ys ∧ ys.length = l.length := by
  intro d
  induction d with
  | zero =>
    intro j ds hj hd hds
    refine ⟨ds, Ev.succ ?_, hds⟩
    simp only [expr_Expr_depths.l0]
    exact Ev.neg (by omega) (Ev.some rfl)
  | succ d ih =>
    intro j ds hj hd hds
    have hjl : j < l.length := by omega
    have hk := hL j hjl
    have key : ∀ (b : Bool) (es : List Int), es.length = l.length → (b = true → 1 ≤ l[j].f0 ∧ l[j].f0 ≤ 15) → (b = false → ¬ (3 ≤ l[j].f0 ∧ l[j].f0 ≤ 15)) →
        ∃ ys, Ev (fun k => expr_Expr_depths.j1 k es (j : Int) l (l.length : Int) (j : Int) b l[j].f0 l[j].f1.f0 l[j].f1.f1 l[j].f1.f2 l[j].f2 l[j].f3 l[j].f4) ys ∧ ys.length = l.length := fun b es hes hb hb' => by
      suffices hx : ∃ ys, Ev (fun k => expr_Expr_depths.j1 (k + 1) es (j : Int) l (l.length : Int) (j : Int) b l[j].f0 l[j].f1.f0 l[j].f1.f1 l[j].f1.f2 l[j].f2 l[j].f3 l[j].f4) ys ∧ ys.length = l.length by
        obtain ⟨r, h, h'⟩ := hx
        exact ⟨r, Ev.succ h, h'⟩
      simp only [expr_Expr_depths.j1]
      rw [up1 (by omega)]
      cases b with
      | false =>
        have p' : ¬ decide (3 ≤ l[j].f0 ∧ l[j].f0 ≤ 15) = true := by simpa using hb' rfl
        obtain ⟨ys, hy, hyl⟩ := ih (j + 1) es (by omega) (by omega) hes
        exact ⟨ys, Ev.neg (by decide) (Ev.bind_some (two_eq _) (Ev.neg p' hy)), hyl⟩
      | true =>
        obtain ⟨hb1, hb2⟩ := hb rfl
        obtain ⟨k0, k1, k2⟩ := hk hb1 hb2
        by_cases p : 3 ≤ l[j].f0 ∧ l[j].f0 ≤ 15
        · have e4 := k2 p.1
          obtain ⟨ys, hy, hyl⟩ := ih (j + 1) ((es.set ((j : Int)).toNat (wrap64 (1 + (rd es l[j].f3)))).set ((j : Int)).toNat (mx (rd (es.set ((j : Int)).toNat (wrap64 (1 + (rd es l[j].f3)))) (j : Int)) (wrap64 (1 + (rd (es.set ((j : Int)).toNat (wrap64 (1 + (rd es l[j].f3)))) l[j].f4))))) (by omega) (by omega) (by simp [hes])
          exact ⟨ys, Ev.pos rfl (Ev.pos (by omega) (Ev.pos (by omega) (Ev.pos (by omega) (Ev.pos (by omega) (Ev.bind_some rfl (Ev.bind_some (two_eq _) (Ev.pos (decide_eq_true p) (Ev.pos (by omega) (Ev.pos (by omega) hy))))))))), hyl⟩
        · have p' : ¬ decide (3 ≤ l[j].f0 ∧ l[j].f0 ≤ 15) = true := by simpa using p
          obtain ⟨ys, hy, hyl⟩ := ih (j + 1) (es.set ((j : Int)).toNat (wrap64 (1 + (rd es l[j].f3)))) (by omega) (by omega) (by simp [hes])
          exact ⟨ys, Ev.pos rfl (Ev.pos (by omega) (Ev.pos (by omega) (Ev.pos (by omega) (Ev.pos (by omega) (Ev.bind_some rfl (Ev.bind_some (two_eq _) (Ev.neg p' hy))))))), hyl⟩
    suffices hx : ∃ ys, Ev (fun k => expr_Expr_depths.l0 (k + 1) ds l (l.length : Int) (j : Int)) ys ∧ ys.length = l.length by
      obtain ⟨r, h, h'⟩ := hx
      exact ⟨r, Ev.succ h, h'⟩
    simp only [expr_Expr_depths.l0]
    rw [rd156 hjl]
    by_cases o : l[j].f0 = 1 ∨ l[j].f0 = 2
    · obtain ⟨r, hr, hrl⟩ := key true (ds.set ((j : Int)).toNat 1) (by simp [hds]) (fun _ => by omega) (fun h => by cases h)
      exact ⟨r, Ev.pos (by omega) (Ev.pos (by omega) (Ev.pos (by omega) (Ev.pos (by omega) (Ev.bind_some rfl (Ev.bind_some (one_eq _) (Ev.pos (decide_eq_true o) hr)))))), hrl⟩
    · have o' : ¬ decide (l[j].f0 = 1 ∨ l[j].f0 = 2) = true := by simpa using o
      obtain ⟨r, hr, hrl⟩ := key (decide (3 ≤ l[j].f0 ∧ l[j].f0 ≤ 15)) (ds.set ((j : Int)).toNat 1) (by simp [hds]) (fun e => by have := of_decide_eq_true e; omega) (fun e => of_decide_eq_false e)
      exact ⟨r, Ev.pos (by omega) (Ev.pos (by omega) (Ev.pos (by omega) (Ev.pos (by omega) (Ev.bind_some rfl (Ev.bind_some (one_eq _) (Ev.neg o' (Ev.bind_some (two_eq _) hr))))))), hrl⟩
theorem depths_total (l : List S156) (hl : l.length ≤ 1000) (hL : ∀ (j : Nat) (h : j < l.length), Link l[j] j) : ∃ ys, Ev (fun k => expr_Expr_depths.f k l) ys ∧ ys.length = l.length := by
  unfold expr_Expr_depths.f
  obtain ⟨ys, hy, hyl⟩ := depths_l0 l hl hL l.length 0 (List.replicate ((l.length : Int) : Int).toNat 0) (by omega) (by omega) (by simp)
  exact ⟨ys, Ev.pos (by omega) (Ev.pos (by omega) hy), hyl⟩
theorem size_l0 (ds : List Int) (hl : ds.length ≤ 1000) : ∀ (d j : Nat), j ≤ ds.length → ds.length - j = d → ∃ r, Ev (fun k => expr_Expr_Size.l0 k ds (ds.length : Int) (j : Int)) r := by
  intro d
  induction d with
  | zero =>
    intro j hj hd
    refine ⟨0, Ev.succ ?_⟩
    simp only [expr_Expr_Size.l0]
    exact Ev.neg (by omega) (Ev.some rfl)
  | succ d ih =>
    intro j hj hd
    suffices hx : ∃ r, Ev (fun k => expr_Expr_Size.l0 (k + 1) ds (ds.length : Int) (j : Int)) r by
      obtain ⟨r, h⟩ := hx
      exact ⟨r, Ev.succ h⟩
    simp only [expr_Expr_Size.l0]
    rw [up1 (by omega)]
    obtain ⟨r, hr⟩ := ih (j + 1) (by omega) (by omega)
    by_cases g : (rd ds (j : Int)) > 8
    · exact ⟨23, Ev.pos (by omega) (Ev.pos (by omega) (Ev.pos (by omega) (Ev.pos g (Ev.some rfl))))⟩
    · exact ⟨r, Ev.pos (by omega) (Ev.pos (by omega) (Ev.pos (by omega) (Ev.neg g hr)))⟩
theorem size_total (l : List S156) (hl : l.length ≤ 1000) (hL : ∀ (j : Nat) (h : j < l.length), Link l[j] j) : ∃ r, Ev (fun k => expr_Expr_Size.f k l) r := by
  unfold expr_Expr_Size.f
  by_cases g : (l.length : Int) > 32
  · exact ⟨13, Ev.pos g (Ev.some rfl)⟩
  · obtain ⟨ys, hy, hyl⟩ := depths_total l hl hL
    obtain ⟨r, hr⟩ := size_l0 ys (by omega) ys.length 0 (by omega) (by omega)
    exact ⟨r, Ev.neg g (Ev.bind hy hr)⟩
end Go.Proofs.YtbngfhlciebeeaaDoor.Sp
end
section
namespace Go.Proofs.YtbngfhlciebeeaaDoor.L
open Go.RowKit Go.Proofs.YtbngfhlciebeeaaDoorW.PrintWords Go.Proofs.YtbngfhlciebeeaaDoorW.PrintLast Go.Proofs.YtbngfhlciebeeaaDoorW.PrintMore
attribute [local go_sem] max2_int min2_int max_two min_two max_three min_three max_four min_four   -- for this text's walks alone
set_option linter.unusedVariables false
set_option linter.unusedSimpArgs false
def val_Word.f (a0 : ByteArray) : Option (Int × Int × ByteArray) := some (3, 0, a0)
set_option maxHeartbeats 8000000 in
set_option maxRecDepth 100000 in
theorem val_Word.calls (a0 : ByteArray) (r1 : Int) (r2 : Int) (r3 : ByteArray) (w : World) (h : val_Word.f a0 = some (r1, r2, r3)) :
  Calls Tryd.prog 160 #[.string a0] w fun e w' => e = .returned (.agg #[.int .i64 r1, .int .i64 r2, .string r3]) ∧ Below w.heap.size w w' := by
 have hu103 := Tryd.underlying103
 have HB := Aside0.mk (Below.refl w.heap.size w)
 have H : (some (3, 0, a0)) = some (r1, r2, r3) := h
 clear h
 simp only [Option.some.injEq, Prod.mk.injEq] at H
 obtain ⟨rfl, rfl, rfl⟩ := H
 go_enter Tryd.func160, Tryd.ntmps160
 go_wp2_with (first | ((with_reducible refine gd 2 rfl ?_); refine bxx 2 #[.int .i64 0, .int .i64 0, .string (⟨#[]⟩ : ByteArray)] 103 ?_; intro gb760 w2 BK760 GW760 HB; obtain ⟨_, _, _, _, _, _⟩ := cells3 BK760.out))
 refine bodyPost_ret (results_cell_row rfl _ _ gb760 103 #[.int .i64 3, .int .i64 0, .string a0] (0, 0) _ rfl qP Tryd.underlying103 rfl (by kernel_rfl)) rfl ?_
 exact ⟨qR, qB⟩
def val_Truth.f (a0 : Bool) : Option (Int × Int × ByteArray) := if a0 = true then (some (2, 1, (⟨#[]⟩ : ByteArray))) else (some (2, 0, (⟨#[]⟩ : ByteArray)))
set_option maxHeartbeats 8000000 in
set_option maxRecDepth 100000 in
theorem val_Truth.calls (a0 : Bool) (r1 : Int) (r2 : Int) (r3 : ByteArray) (w : World) (h : val_Truth.f a0 = some (r1, r2, r3)) :
  Calls Tryd.prog 65 #[.bool a0] w fun e w' => e = .returned (.agg #[.int .i64 r1, .int .i64 r2, .string r3]) ∧ Below w.heap.size w w' := by
 have hu103 := Tryd.underlying103
 have HB := Aside0.mk (Below.refl w.heap.size w)
 have H : (if a0 = true then (some (2, 1, (⟨#[]⟩ : ByteArray))) else (some (2, 0, (⟨#[]⟩ : ByteArray)))) = some (r1, r2, r3) := h
 clear h
 by_cases c2 : a0 = true
 ·subst c2
  rw [if_pos rfl] at H
  simp only [Option.some.injEq, Prod.mk.injEq] at H
  obtain ⟨rfl, rfl, rfl⟩ := H
  go_enter Tryd.func65, Tryd.ntmps65
  go_wp2_with (first | ((with_reducible refine gd 2 rfl ?_); refine bxx 2 #[.int .i64 0, .int .i64 0, .string (⟨#[]⟩ : ByteArray)] 103 ?_; intro gb758 w3 BK758 GW758 HB; obtain ⟨_, _, _, _, _, _⟩ := cells3 BK758.out))
  refine bodyPost_ret (results_cell_row rfl _ _ gb758 103 #[.int .i64 2, .int .i64 1, .string (⟨#[]⟩ : ByteArray)] (0, 0) _ rfl qP Tryd.underlying103 rfl (by kernel_rfl)) rfl ?_
  exact ⟨qR, qB⟩
 replace c2 := Bool.eq_false_iff.mpr c2
 subst c2
 rw [if_neg (show ¬ (false = true) by decide)] at H
 simp only [Option.some.injEq, Prod.mk.injEq] at H
 obtain ⟨rfl, rfl, rfl⟩ := H
 go_enter Tryd.func65, Tryd.ntmps65
 go_wp2_with (first | ((with_reducible refine gd 2 rfl ?_); refine bxx 2 #[.int .i64 0, .int .i64 0, .string (⟨#[]⟩ : ByteArray)] 103 ?_; intro gb758 w5 BK758 GW758 HB; obtain ⟨_, _, _, _, _, _⟩ := cells3 BK758.out))
 refine bodyPost_ret (results_cell_row rfl _ _ gb758 103 #[.int .i64 2, .int .i64 0, .string (⟨#[]⟩ : ByteArray)] (0, 0) _ rfl qP Tryd.underlying103 rfl (by kernel_rfl)) rfl ?_
 exact ⟨qR, qB⟩
end Go.Proofs.YtbngfhlciebeeaaDoor.L
end
section
namespace Go.Proofs.YtbngfhlciebeeaaDoor.L
set_option linter.unusedVariables false
set_option linter.unusedSimpArgs false
open Go.RowKit Go.Proofs.YtbngfhlciebeeaaDoorW.PrintWords Go.Proofs.YtbngfhlciebeeaaDoorW.PrintLast Go.Proofs.YtbngfhlciebeeaaDoorW.PrintMore
theorem size_alloc1 (w : World) (o : Obj) : (w.alloc o).heap.size = w.heap.size + 1 := by unfold World.alloc; exact Array.size_push ..
theorem size_up (w : World) (o : Obj) : w.heap.size ≤ (w.alloc o).heap.size := by rw [size_alloc1]; omega
end Go.Proofs.YtbngfhlciebeeaaDoor.L
end
section
namespace Go.Proofs.YtbngfhlciebeeaaDoor.L
open Go.RowKit Go.Proofs.YtbngfhlciebeeaaDoorW.PrintWords Go.Proofs.YtbngfhlciebeeaaDoorW.PrintLast Go.Proofs.YtbngfhlciebeeaaDoorW.PrintMore
attribute [local go_sem] max2_int min2_int max_two min_two max_three min_three max_four min_four   -- for this text's walks alone
set_option linter.unusedVariables false
set_option linter.unusedSimpArgs false
mutual
def tok_Token_Is.j0 : Nat → List ByteArray → Bool → Int → ByteArray → Int → Int → Option (Bool)
 | 0, _, _, _, _, _, _ => none
 | k + 1, x1, x14, x247000, x247001, x247002, x247003 => if x14 = true then (some false) else (tok_Token_Is.l0 k x1 (x1.length : Int) 0 x247000 x247001 x247002 x247003)
def tok_Token_Is.l0 : Nat → List ByteArray → Int → Int → Int → ByteArray → Int → Int → Option (Bool)
 | 0, _, _, _, _, _, _, _ => none
 | k + 1, x15, x16, x17, x247000, x247001, x247002, x247003 => if x17 < x16 then (if 0 ≤ x17 then (if x17 < (x15.length : Int) then (if x247001.toList = (rdOf ByteArray.empty x15 x17).toList then (some true) else (tok_Token_Is.l0 k x15 x16 (wrap64 (x17 + 1)) x247000 x247001 x247002 x247003)) else (none)) else (none)) else (some false)
end
def tok_Token_Is.f (k : Nat) (a0_0 : Int) (a0_1 : ByteArray) (a0_2 : Int) (a0_3 : Int) (l1 : List ByteArray) : Option (Bool) := if a0_0 = 1 then (tok_Token_Is.j0 k l1 false a0_0 a0_1 a0_2 a0_3) else (tok_Token_Is.j0 k l1 (a0_0 != 5) a0_0 a0_1 a0_2 a0_3)
set_option maxHeartbeats 8000000 in
set_option maxRecDepth 100000 in
theorem tok_Token_Is.calls (k : Nat) (a0_0 : Int) (a0_1 : ByteArray) (a0_2 : Int) (a0_3 : Int) (A1 : Option Addr) (c1 : Nat) (l1 : List ByteArray) (r : Bool) (w : World) (hr1 : Kd.C Kd.string w A1 l1.length l1) (hc1 : l1.length ≤ c1) (h : tok_Token_Is.f k a0_0 a0_1 a0_2 a0_3 l1 = some r) :
  Calls Tryd.prog 23 #[.agg #[.int .i64 a0_0, .string a0_1, .int .i64 a0_2, .int .i64 a0_3], .slice A1 l1.length c1] w fun e w' => e = .returned (.bool r) ∧ Below w.heap.size w w' := by
 have hu32 := Tryd.underlying32
 have HR1 := Aside0.mk hr1
 have HC1 := Aside0.mk hc1
 clear hr1 hc1
 have HB := Aside0.mk (Below.refl w.heap.size w)
 have H : (if a0_0 = 1 then (tok_Token_Is.j0 k l1 false a0_0 a0_1 a0_2 a0_3) else (tok_Token_Is.j0 k l1 (a0_0 != 5) a0_0 a0_1 a0_2 a0_3)) = some r := h
 clear h
 have HC3 := Aside0.mk H
 clear H
 go_enter Tryd.func23, Tryd.ntmps23
 go_upto_region 1 with (first | ((with_reducible refine gd 2 rfl ?_); refine bxx 2 #[.int .i64 a0_0, .string a0_1, .int .i64 a0_2, .int .i64 a0_3] 32 ?_; intro gb246 w4 BK246 GW246 HB))
 (try simp only [Act.put, List.setIfInBounds_toArray, List.set_cons_zero, List.set_cons_succ])
 go_cut [14] (fun v14 wc => ∃ (kq : Nat) (x14_2 : Bool), v14 = .bool x14_2 ∧ Aside0 (tok_Token_Is.j0 kq l1 x14_2 a0_0 a0_1 a0_2 a0_3 = some r) ∧ Aside0 (kq ≤ k) ∧ Aside0 (wc.heap[gb246]? = some (.cells #[.int .i64 a0_0, .string a0_1, .int .i64 a0_2, .int .i64 a0_3] 32 (0, 0))) ∧ Aside0 (Below w.heap.size w wc))
 case first =>
  have H := HC3.out
  clear HC3
  by_cases c5 : a0_0 = 1
  ·rw [if_pos c5] at H
   have c5b0 := beq_iff_eq.mpr c5
   have c5b1 := bne_eq_false_iff_eq.mpr c5
   clear c5
   (first | rw [c5b0] | (simp only [i64_w, i32_w]; rw [c5b0]) | skip)
   have H' := Aside0.mk H
   clear H
   obtain ⟨_, _, _, _, _, _, _, _⟩ := cells4 BK246.out
   go_wp2
   go_meet
   case rel => exact ⟨_, (false), qE, H', ⟨by first | omega | exact Nat.le_refl _⟩, ⟨qK⟩, ⟨qB⟩⟩
  rw [if_neg c5] at H
  have c5b0 := beq_eq_false_iff_ne.mpr c5
  have c5b1 := bne_iff_ne.mpr c5
  (first | rw [c5b0] | (simp only [i64_w, i32_w]; rw [c5b0]) | skip)
  have H' := Aside0.mk H
  clear H
  obtain ⟨_, _, _, _, _, _, _, _⟩ := cells4 BK246.out
  go_wp2
  go_meet
  case rel => exact ⟨_, ((a0_0 != 5)), qE, H', ⟨by first | omega | exact Nat.le_refl _⟩, ⟨qK⟩, ⟨qB⟩⟩
 case rest =>
  clear HC3
  try clear p2
  obtain ⟨kq, x14_2, rfl, HA, HJ2, BK246, HB⟩ := hcut
  cases kq with
  | zero => exact absurd HA.out (by simp [tok_Token_Is.j0])
  | succ kj2 =>
   have H := HA.out
   clear HA
   simp only [tok_Token_Is.j0] at H
   by_cases c8 : x14_2 = true
   ·subst c8
    rw [if_pos rfl] at H
    obtain rfl := Option.some.inj H
    go_wp2
    go_ret
    exact ⟨qR, qB⟩
   replace c8 := Bool.eq_false_iff.mpr c8
   subst c8
   rw [if_neg (show ¬ (false = true) by decide)] at H
   have H' := Aside0.mk H
   clear H
   go_wp2
   go_loopg [17] kj2 (fun kq v17 w' => ∃ (x17_2 : Int), v17 = .int .i64 x17_2 ∧ Aside0 (tok_Token_Is.l0 kq l1 (l1.length : Int) x17_2 a0_0 a0_1 a0_2 a0_3 = some r) ∧ Aside0 (kq ≤ kj2) ∧ Aside0 (w'.heap[gb246]? = some (.cells #[.int .i64 a0_0, .string a0_1, .int .i64 a0_2, .int .i64 a0_3] 32 (0, 0))) ∧ Aside0 (Below w.heap.size w w'))
   case atStart => exact ⟨(0), qE, H', ⟨Nat.le_refl _⟩, ⟨qK⟩, ⟨qB⟩⟩
   case round =>
    clear H'
    try clear p2 p2
    obtain ⟨x17_2, rfl, HA, HK2, BK246, HB⟩ := hrel
    cases gk with
    | zero => exact absurd HA.out (by simp [tok_Token_Is.l0])
    | succ k2 =>
     have H := HA.out; clear HA; simp only [tok_Token_Is.l0] at H; replace H := iD H
     rcases H with ⟨c9b0, H⟩ | ⟨c9b0, H⟩
     ·by_cases c10 : 0 ≤ x17_2
      ·rw [if_pos c10] at H; have c10b0 := decide_eq_true c10; clear c10; replace H := iD H
       rcases H with ⟨c11b0, H⟩ | ⟨c11b0, H⟩
       ·by_cases c12 : a0_1.toList = (rdOf ByteArray.empty l1 x17_2).toList
        ·rw [if_pos c12] at H; have c12b0 := beq_iff_eq.mpr c12; have c12b1 := bne_eq_false_iff_eq.mpr c12; clear c12; obtain rfl := Option.some.inj H; have p247 : 0 ≤ (x17_2 : Int) := qD; have q247 : x17_2 < (l1.length : Int) := qD; obtain ⟨ad247, e247, hx247_0⟩ := Kd.at_string HR1.out x17_2 p247 q247; cases e247; replace hx247_0 := pw_cell_below HB.out hx247_0; replace p247 := eq_true p247; replace q247 := eq_true q247; obtain ⟨_, _, _, _, _, _, _, _⟩ := cells4 BK246.out
         go_wp2
         go_ret; exact ⟨qR, qB⟩
        rw [if_neg c12] at H; have c12b0 := beq_eq_false_iff_ne.mpr c12; have c12b1 := bne_iff_ne.mpr c12; have H' := Aside0.mk H; clear H; have p247 : 0 ≤ (x17_2 : Int) := qD; have q247 : x17_2 < (l1.length : Int) := qD; obtain ⟨ad247, e247, hx247_0⟩ := Kd.at_string HR1.out x17_2 p247 q247; cases e247; replace hx247_0 := pw_cell_below HB.out hx247_0; replace p247 := eq_true p247; replace q247 := eq_true q247; obtain ⟨_, _, _, _, _, _, _, _⟩ := cells4 BK246.out
        go_wp2
        go_roundg k2
        case measure => have := HJ2.out; have := HK2.out; omega
        case rel => exact ⟨(wrap64 (x17_2 + 1)), qE, H', ⟨by have := HJ2.out; have := HK2.out; omega⟩, ⟨qK⟩, ⟨qB⟩⟩
       exact absurd H (by simp)
      rw [if_neg c10] at H; exact absurd H (by simp)
     obtain rfl := Option.some.inj H
     go_wp2
     go_ret; exact ⟨qR, qB⟩
end Go.Proofs.YtbngfhlciebeeaaDoor.L
end
