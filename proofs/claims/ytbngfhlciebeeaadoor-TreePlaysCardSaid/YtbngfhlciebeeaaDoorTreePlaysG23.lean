/- Printed and hand-written steps towards the row (TreePlays), those that it reaches. -/
import Derived.Test.YtbngfhlciebeeaaDoorTreePlaysG4
import Derived.Test.YtbngfhlciebeeaaDoorTreePlaysG5
import Derived.Test.YtbngfhlciebeeaaDoorTreePlaysG18
import Derived.Test.YtbngfhlciebeeaaDoorTreePlaysG20
import Derived.Test.YtbngfhlciebeeaaDoorTreePlaysG21
import Derived.Test.YtbngfhlciebeeaaDoorTreePlaysLxf41
import Derived.KernelRfl
import Derived.Test.YtbngfhlciebeeaaDoorTreePlaysG16
import Derived.OpenShut
section
namespace Go.Proofs.YtbngfhlciebeeaaDoor.L
open Go.RowKit Go.Proofs.YtbngfhlciebeeaaDoorW.PrintWords Go.Proofs.YtbngfhlciebeeaaDoorW.PrintLast Go.Proofs.YtbngfhlciebeeaaDoorW.PrintMore
attribute [local go_sem] max2_int min2_int max_two min_two max_three min_three max_four min_four   -- for this text's walks alone
set_option linter.unusedVariables false
set_option linter.unusedSimpArgs false
def whirligiglaw22_anchor.l0 : Nat → List (S43) → Int → Option (Bool)
 | 0, _, _ => none
 | k + 1, x1, x6 => if x6 < 3 then ((tree_Tree_Grow.f x1 0).bind fun bt426 => (whirligiglaw22_anchor.l0 k bt426.1 (wrap64 (x6 + 1)))) else ((tree_Tree_Put.f k x1 0 1 0 1 (⟨#[101]⟩ : ByteArray) 0).bind fun bt430 => (if bt430.2.2 = 0 then (if bt430.2.1 = 1 then (if (bt430.1.length : Int) = 2 then (if 1 < (bt430.1.length : Int) then (if ((rd_T43 bt430.1 1).f2) = 2 then (if 0 < (bt430.1.length : Int) then (if ((rd_T43 bt430.1 0).f2) = 3 then ((tree_Tree_Right.f k bt430.1).bind fun t437 => (some t437)) else (some false)) else (none)) else (some false)) else (none)) else (some false)) else (some false)) else (some false)))
def whirligiglaw22_anchor.f (k : Nat)  : Option (Bool) := (tree_New.f).bind fun t423 => (whirligiglaw22_anchor.l0 k t423 0)
set_option maxHeartbeats 8000000 in
set_option maxRecDepth 100000 in
theorem whirligiglaw22_anchor.calls (k : Nat)  (r : Bool) (w : World) (hL : Laid w) (h : whirligiglaw22_anchor.f k  = some r) :
  Calls Tryd.prog 32 #[] w fun e w' => e = .returned (.bool r) ∧ Below w.heap.size w w' := by
 have hu45 := Tryd.underlying45
 have HB := Aside0.mk (Below.refl w.heap.size w)
 have HLD := Aside0.mk hL
 clear hL
 have H : ((tree_New.f).bind fun t423 => (whirligiglaw22_anchor.l0 k t423 0)) = some r := h
 clear h
 replace H := Option.bind_eq_some_iff.mp H
 obtain ⟨t423, A10, H⟩ := H
 (try dsimp -simprocs only at H)
 have A1 := Aside0.mk A10
 clear A10
 have H' := Aside0.mk H
 clear H
 go_enter Tryd.func32, Tryd.ntmps32
 go_wp2_with (first | ((with_reducible refine gc 39 rfl ?_); refine gl (some 5) #[] Tryd.func39 ?_; (with_reducible refine (tree_New.calls  t423 _ A1.out).mono ?_); rintro e w2 ⟨v424, rfl, ho0, hb⟩; refine ⟨_, rfl, ?_⟩; have HO425 := Aside0.mk (Kd.S_lower ho0 (below_size qB)); replace HB := bst hb; (try clear hb); (try clear ho0)))
 go_loopg [1, 6] k (fun kq v1 v6 w' => ∃ (x1_1 : List (S43)) (x6_1 : Int), v6 = .int .i64 x6_1 ∧ Aside0 (whirligiglaw22_anchor.l0 kq x1_1 x6_1 = some r) ∧ Aside0 (kq ≤ k) ∧ Aside0 (Kd.S k43 43 w' w.heap.size (fun _ => True) v1 x1_1) ∧ Aside0 (Below w.heap.size w w'))
 case atStart => exact ⟨(t423), (0), qE, H', ⟨Nat.le_refl _⟩, ⟨by (with_reducible repeat (first | apply Kd.S_alloc | apply Kd.S_drewN | apply Kd.S_drew)); exact HO425.out⟩, ⟨qB⟩⟩
 case round =>
  clear H'
  try clear p2
  obtain ⟨x1_1, x6_1, rfl, HA, HK1, HO_1, HB⟩ := hrel
  cases gk with
  | zero => exact absurd HA.out (by simp [whirligiglaw22_anchor.l0])
  | succ k1 =>
   have H := HA.out
   clear HA
   simp only [whirligiglaw22_anchor.l0] at H
   replace H := iD H
   rcases H with ⟨c3b0, H⟩ | ⟨c3b0, H⟩
   ·replace H := Option.bind_eq_some_iff.mp H
    obtain ⟨⟨t426, t427⟩, A40, H⟩ := H
    (try dsimp -simprocs only at H)
    have A4 := Aside0.mk A40
    clear A40
    have H' := Aside0.mk H
    clear H
    obtain ⟨Ao5, co5, eo5⟩ := Kd.S_slice HO_1.out
    subst eo5
    go_wp2_with (first | ((with_reducible refine gc 40 rfl ?_); refine gl (some 10) #[.slice Ao5 x1_1.length co5, .int .i64 0] Tryd.func40 ?_; (with_reducible refine (tree_Tree_Grow.calls _ _ x1_1 0 t426 t427 _ ?side1 ?side2 A4.out).mono ?_); (case side1 => repeat (first | exact (Kd.S_reads' HO_1.out).2.2 | (with_reducible refine Kd.C_alloc ?_ _) | (with_reducible refine Kd.C_drewN ?_ _) | (with_reducible refine Kd.C_drew ?_))); (case side2 => exact (Kd.S_reads' HO_1.out).2.1); rintro e w6 ⟨v428, rfl, ho0, hb⟩; refine ⟨_, rfl, ?_⟩; have n0_ := Aside0.mk (Kd.S_elder' (by (with_reducible repeat (first | apply Kd.S_alloc | apply Kd.S_drewN | apply Kd.S_drew)); exact HO_1.out) (Kd.S_base ho0) hb); have n1_ := Aside0.mk (Kd.S_lower (Kd.S_new' ho0 (Kd.S_lt (by (with_reducible repeat (first | apply Kd.S_alloc | apply Kd.S_drewN | apply Kd.S_drew)); exact HO_1.out))) (below_size qB)); have n2_ := bst hb; clear HO_1; clear HB; have HO_1 := n0_; have HO429 := n1_; have HB := n2_; clear n0_ n1_ n2_; (try clear hb); (try clear ho0)))
    go_roundg k1
    case measure => have := HK1.out; omega
    case rel => exact ⟨(t426), (wrap64 (x6_1 + 1)), qE, H', ⟨by have := HK1.out; omega⟩, ⟨by (with_reducible repeat (first | apply Kd.S_alloc | apply Kd.S_drewN | apply Kd.S_drew)); exact Kd.S_mono HO429.out (fun _ hk => trivial)⟩, ⟨qB⟩⟩
   replace H := Option.bind_eq_some_iff.mp H
   obtain ⟨⟨t430, t433, t434⟩, A70, H⟩ := H
   (try dsimp -simprocs only at H)
   have A7 := Aside0.mk A70
   clear A70
   by_cases c8 : t434 = 0
   ·rw [if_pos c8] at H
    have c8b0 := beq_iff_eq.mpr c8
    have c8b1 := bne_eq_false_iff_eq.mpr c8
    clear c8
    by_cases c9 : t433 = 1
    ·rw [if_pos c9] at H; have c9b0 := beq_iff_eq.mpr c9; have c9b1 := bne_eq_false_iff_eq.mpr c9; clear c9
     by_cases c10 : (t430.length : Int) = 2
     ·rw [if_pos c10] at H; have c10b0 := beq_iff_eq.mpr c10; have c10b1 := bne_eq_false_iff_eq.mpr c10; clear c10
      by_cases c11 : 1 < (t430.length : Int)
      ·rw [if_pos c11] at H; have c11b0 := decide_eq_true c11; have c11b1 : decide (1 < t430.length) = true := decide_eq_true (by omega); clear c11
       by_cases c12 : ((rd_T43 t430 1).f2) = 2
       ·rw [if_pos c12] at H; have c12b0 := beq_iff_eq.mpr c12; have c12b1 := bne_eq_false_iff_eq.mpr c12; clear c12
        by_cases c13 : 0 < (t430.length : Int)
        ·rw [if_pos c13] at H; have c13b0 := decide_eq_true c13; have c13b1 : decide (0 < t430.length) = true := decide_eq_true (by omega); clear c13
         by_cases c14 : ((rd_T43 t430 0).f2) = 3
         ·rw [if_pos c14] at H; have c14b0 := beq_iff_eq.mpr c14; have c14b1 := bne_eq_false_iff_eq.mpr c14; clear c14; replace H := Option.bind_eq_some_iff.mp H; obtain ⟨t437, A150, H⟩ := H; (try dsimp -simprocs only at H); have A15 := Aside0.mk A150; clear A150; obtain rfl := Option.some.inj H; obtain ⟨Ao16, co16, eo16⟩ := Kd.S_slice HO_1.out; subst eo16
          go_wp2_with (first | ((with_reducible refine gc 41 rfl ?_); refine gl (some 17) #[.slice Ao16 x1_1.length co16, .int .i64 0, .int .i64 1, .agg #[.int .i64 0, .int .i64 1, .string (⟨#[101]⟩ : ByteArray), .int .i64 0]] Tryd.func41 ?_; (with_reducible refine (tree_Tree_Put.calls k1 _ _ x1_1 0 1 0 1 (⟨#[101]⟩ : ByteArray) 0 t430 t433 t434 _ ?side1 ?side2 ?side3 A7.out).mono ?_); (case side1 => repeat (first | exact (Kd.S_reads' HO_1.out).2.2 | (with_reducible refine Kd.C_alloc ?_ _) | (with_reducible refine Kd.C_drewN ?_ _) | (with_reducible refine Kd.C_drew ?_))); (case side2 => exact (Kd.S_reads' HO_1.out).2.1); (case side3 => exact Laid.below HLD.out qB); rintro e w17 ⟨v431, rfl, ho0, hb⟩; refine ⟨_, rfl, ?_⟩; have n0_ := Aside0.mk (Kd.S_elder' (by (with_reducible repeat (first | apply Kd.S_alloc | apply Kd.S_drewN | apply Kd.S_drew)); exact HO_1.out) (Kd.S_base ho0) hb); have n1_ := Aside0.mk (Kd.S_lower (Kd.S_new' ho0 (Kd.S_lt (by (with_reducible repeat (first | apply Kd.S_alloc | apply Kd.S_drewN | apply Kd.S_drew)); exact HO_1.out))) (below_size qB)); have n2_ := bst hb; clear HO_1; clear HB; have HO_1 := n0_; have HO432 := n1_; have HB := n2_; clear n0_ n1_ n2_; (try clear hb); (try clear ho0); obtain ⟨Ao18, co18, eo18⟩ := Kd.S_slice HO432.out; subst eo18; have p435 : 0 ≤ (1 : Int) := (by omega); have q435 : 1 < (t430.length : Int) := qD; obtain ⟨ad435, A435_3, c435_3, e435, hx435_0, hx435_1, hx435_2, hx435_3, hl435_3, hi435_3⟩ := at_T43 (Kd.S_reads' HO432.out).2.2 1 p435 q435; cases e435; obtain ⟨ce435, hce435, hMe435, hcc435⟩ := Kd.S_get HO432.out z43 1 p435 (by first | exact q435 | exact qD | (have e_ := (Kd.S_reads' HO432.out).1; omega)); obtain ⟨ve435_3, rfl, ge435_3⟩ := k43_openM hMe435; have hv435_3 := hcc435 3 _ rfl; rw [add_field _ _ 3 (by omega)] at hv435_3; replace hv435_3 := Option.some.inj (hv435_3.symm.trans hx435_3); rw [hv435_3] at ge435_3; have HL435_3 := Aside0.mk (show Kd.R k45 45 _ _ _ _ ((rd_T43 t430 1).f3) from ge435_3); clear hv435_3 ge435_3; clear hcc435 hce435; (try simp only [show (1 : Int).toNat = 1 from rfl, Nat.reduceMul, Nat.reduceEqDiff, Go.Addr.add, ↓reduceIte] at hx435_0); (try simp only [show (1 : Int).toNat = 1 from rfl, Nat.reduceMul, Nat.reduceEqDiff, Go.Addr.add, ↓reduceIte] at hx435_1); (try simp only [show (1 : Int).toNat = 1 from rfl, Nat.reduceMul, Nat.reduceEqDiff, Go.Addr.add, ↓reduceIte] at hx435_2); (try simp only [show (1 : Int).toNat = 1 from rfl, Nat.reduceMul, Nat.reduceEqDiff, Go.Addr.add, ↓reduceIte] at hx435_3); have qi435 : (1 < t430.length) = True := eq_true (by omega); (try rw [show ((1 : Int)).toNat = 1 from rfl] at hx435_0); (try rw [show 1 * 4 = 4 from rfl] at hx435_0); (try rw [show ((1 : Int)).toNat = 1 from rfl] at hx435_1); (try rw [show 1 * 4 = 4 from rfl] at hx435_1); (try rw [show ((1 : Int)).toNat = 1 from rfl] at hx435_2); (try rw [show 1 * 4 = 4 from rfl] at hx435_2); (try rw [show ((1 : Int)).toNat = 1 from rfl] at hx435_3); (try rw [show 1 * 4 = 4 from rfl] at hx435_3); have HR435_3 := Aside0.mk hi435_3; have HC435_3 := Aside0.mk hl435_3; clear hi435_3 hl435_3; replace p435 := eq_true p435; replace q435 := eq_true q435; have p436 : 0 ≤ (0 : Int) := (by omega); have q436 : 0 < (t430.length : Int) := qD; obtain ⟨ad436, A436_3, c436_3, e436, hx436_0, hx436_1, hx436_2, hx436_3, hl436_3, hi436_3⟩ := at_T43 (Kd.S_reads' HO432.out).2.2 0 p436 q436; obtain rfl : ad435 = ad436 := (by injection e436); obtain ⟨ce436, hce436, hMe436, hcc436⟩ := Kd.S_get HO432.out z43 0 p436 (by first | exact q436 | exact qD | (have e_ := (Kd.S_reads' HO432.out).1; omega)); obtain ⟨ve436_3, rfl, ge436_3⟩ := k43_openM hMe436; have hv436_3 := hcc436 3 _ rfl; rw [add_field _ _ 3 (by omega)] at hv436_3; replace hv436_3 := Option.some.inj (hv436_3.symm.trans hx436_3); rw [hv436_3] at ge436_3; have HL436_3 := Aside0.mk (show Kd.R k45 45 _ _ _ _ ((rd_T43 t430 0).f3) from ge436_3); clear hv436_3 ge436_3; clear hcc436 hce436; have qi436 : (0 < t430.length) = True := eq_true (by omega); (try rw [show ((0 : Int)).toNat = 0 from rfl] at hx436_0); (try rw [show 0 * 4 = 0 from rfl] at hx436_0); (try rw [Addr.add_zero'] at hx436_0); (try rw [show ((0 : Int)).toNat = 0 from rfl] at hx436_1); (try rw [show 0 * 4 = 0 from rfl] at hx436_1); (try rw [Addr.add_zero'] at hx436_1); (try rw [show ((0 : Int)).toNat = 0 from rfl] at hx436_2); (try rw [show 0 * 4 = 0 from rfl] at hx436_2); (try rw [Addr.add_zero'] at hx436_2); (try rw [show ((0 : Int)).toNat = 0 from rfl] at hx436_3); (try rw [show 0 * 4 = 0 from rfl] at hx436_3); (try rw [Addr.add_zero'] at hx436_3); have HR436_3 := Aside0.mk hi436_3; have HC436_3 := Aside0.mk hl436_3; clear hi436_3 hl436_3; replace p436 := eq_true p436; replace q436 := eq_true q436) | (go_at_call 35; (with_reducible refine (tree_Tree_Right.calls k1 _ _ t430 t437 _ ?side1 ?side2 ?side3 A15.out).mono ?_); (case side1 => repeat (first | exact (Kd.S_reads' HO432.out).2.2 | (with_reducible refine Kd.C_alloc ?_ _) | (with_reducible refine Kd.C_drewN ?_ _) | (with_reducible refine Kd.C_drew ?_))); (case side2 => exact (Kd.S_reads' HO432.out).2.1); (case side3 => exact Laid.below HLD.out qB); rintro e w19 ⟨rfl, hb⟩; have n0_ := Aside0.mk (Kd.S_below (by (with_reducible repeat (first | apply Kd.S_alloc | apply Kd.S_drewN | apply Kd.S_drew)); exact HO_1.out) hb); have n1_ := Aside0.mk (Kd.S_below (by (with_reducible repeat (first | apply Kd.S_alloc | apply Kd.S_drewN | apply Kd.S_drew)); exact HO432.out) hb); have n2_ := Aside0.mk (Kd.R_below (by (with_reducible repeat (first | apply Kd.R_alloc | apply Kd.R_drewN | apply Kd.R_drew)); exact HL435_3.out) hb); have n3_ := Aside0.mk (Kd.R_below (by (with_reducible repeat (first | apply Kd.R_alloc | apply Kd.R_drewN | apply Kd.R_drew)); exact HL436_3.out) hb); have n4_ := Aside0.mk (Kd.C_below (by repeat (first | (with_reducible exact HR435_3.out) | (with_reducible refine Kd.C_alloc ?_ _) | (with_reducible refine Kd.C_drewN ?_ _) | (with_reducible refine Kd.C_drew ?_) | exact HR435_3.out)) hb); have n5_ := Aside0.mk (Kd.C_below (by repeat (first | (with_reducible exact HR436_3.out) | (with_reducible refine Kd.C_alloc ?_ _) | (with_reducible refine Kd.C_drewN ?_ _) | (with_reducible refine Kd.C_drew ?_) | exact HR436_3.out)) hb); have n6_ := bst hb; clear HO_1; clear HO432; clear HL435_3; clear HL436_3; clear HR435_3; clear HR436_3; clear HB; have HO_1 := n0_; have HO432 := n1_; have HL435_3 := n2_; have HL436_3 := n3_; have HR435_3 := n4_; have HR436_3 := n5_; have HB := n6_; clear n0_ n1_ n2_ n3_ n4_ n5_ n6_; (try clear hb)))
          go_ret; exact ⟨qR, qB⟩
         rw [if_neg c14] at H; have c14b0 := beq_eq_false_iff_ne.mpr c14; have c14b1 := bne_iff_ne.mpr c14; obtain rfl := Option.some.inj H; obtain ⟨Ao20, co20, eo20⟩ := Kd.S_slice HO_1.out; subst eo20
         go_wp2_with (first | ((with_reducible refine gc 41 rfl ?_); refine gl (some 17) #[.slice Ao20 x1_1.length co20, .int .i64 0, .int .i64 1, .agg #[.int .i64 0, .int .i64 1, .string (⟨#[101]⟩ : ByteArray), .int .i64 0]] Tryd.func41 ?_; (with_reducible refine (tree_Tree_Put.calls k1 _ _ x1_1 0 1 0 1 (⟨#[101]⟩ : ByteArray) 0 t430 t433 t434 _ ?side1 ?side2 ?side3 A7.out).mono ?_); (case side1 => repeat (first | exact (Kd.S_reads' HO_1.out).2.2 | (with_reducible refine Kd.C_alloc ?_ _) | (with_reducible refine Kd.C_drewN ?_ _) | (with_reducible refine Kd.C_drew ?_))); (case side2 => exact (Kd.S_reads' HO_1.out).2.1); (case side3 => exact Laid.below HLD.out qB); rintro e w21 ⟨v431, rfl, ho0, hb⟩; refine ⟨_, rfl, ?_⟩; have n0_ := Aside0.mk (Kd.S_elder' (by (with_reducible repeat (first | apply Kd.S_alloc | apply Kd.S_drewN | apply Kd.S_drew)); exact HO_1.out) (Kd.S_base ho0) hb); have n1_ := Aside0.mk (Kd.S_lower (Kd.S_new' ho0 (Kd.S_lt (by (with_reducible repeat (first | apply Kd.S_alloc | apply Kd.S_drewN | apply Kd.S_drew)); exact HO_1.out))) (below_size qB)); have n2_ := bst hb; clear HO_1; clear HB; have HO_1 := n0_; have HO432 := n1_; have HB := n2_; clear n0_ n1_ n2_; (try clear hb); (try clear ho0); obtain ⟨Ao22, co22, eo22⟩ := Kd.S_slice HO432.out; subst eo22; have p435 : 0 ≤ (1 : Int) := (by omega); have q435 : 1 < (t430.length : Int) := qD; obtain ⟨ad435, A435_3, c435_3, e435, hx435_0, hx435_1, hx435_2, hx435_3, hl435_3, hi435_3⟩ := at_T43 (Kd.S_reads' HO432.out).2.2 1 p435 q435; cases e435; obtain ⟨ce435, hce435, hMe435, hcc435⟩ := Kd.S_get HO432.out z43 1 p435 (by first | exact q435 | exact qD | (have e_ := (Kd.S_reads' HO432.out).1; omega)); obtain ⟨ve435_3, rfl, ge435_3⟩ := k43_openM hMe435; have hv435_3 := hcc435 3 _ rfl; rw [add_field _ _ 3 (by omega)] at hv435_3; replace hv435_3 := Option.some.inj (hv435_3.symm.trans hx435_3); rw [hv435_3] at ge435_3; have HL435_3 := Aside0.mk (show Kd.R k45 45 _ _ _ _ ((rd_T43 t430 1).f3) from ge435_3); clear hv435_3 ge435_3; clear hcc435 hce435; (try simp only [show (1 : Int).toNat = 1 from rfl, Nat.reduceMul, Nat.reduceEqDiff, Go.Addr.add, ↓reduceIte] at hx435_0); (try simp only [show (1 : Int).toNat = 1 from rfl, Nat.reduceMul, Nat.reduceEqDiff, Go.Addr.add, ↓reduceIte] at hx435_1); (try simp only [show (1 : Int).toNat = 1 from rfl, Nat.reduceMul, Nat.reduceEqDiff, Go.Addr.add, ↓reduceIte] at hx435_2); (try simp only [show (1 : Int).toNat = 1 from rfl, Nat.reduceMul, Nat.reduceEqDiff, Go.Addr.add, ↓reduceIte] at hx435_3); have qi435 : (1 < t430.length) = True := eq_true (by omega); (try rw [show ((1 : Int)).toNat = 1 from rfl] at hx435_0); (try rw [show 1 * 4 = 4 from rfl] at hx435_0); (try rw [show ((1 : Int)).toNat = 1 from rfl] at hx435_1); (try rw [show 1 * 4 = 4 from rfl] at hx435_1); (try rw [show ((1 : Int)).toNat = 1 from rfl] at hx435_2); (try rw [show 1 * 4 = 4 from rfl] at hx435_2); (try rw [show ((1 : Int)).toNat = 1 from rfl] at hx435_3); (try rw [show 1 * 4 = 4 from rfl] at hx435_3); have HR435_3 := Aside0.mk hi435_3; have HC435_3 := Aside0.mk hl435_3; clear hi435_3 hl435_3; replace p435 := eq_true p435; replace q435 := eq_true q435; have p436 : 0 ≤ (0 : Int) := (by omega); have q436 : 0 < (t430.length : Int) := qD; obtain ⟨ad436, A436_3, c436_3, e436, hx436_0, hx436_1, hx436_2, hx436_3, hl436_3, hi436_3⟩ := at_T43 (Kd.S_reads' HO432.out).2.2 0 p436 q436; obtain rfl : ad435 = ad436 := (by injection e436); obtain ⟨ce436, hce436, hMe436, hcc436⟩ := Kd.S_get HO432.out z43 0 p436 (by first | exact q436 | exact qD | (have e_ := (Kd.S_reads' HO432.out).1; omega)); obtain ⟨ve436_3, rfl, ge436_3⟩ := k43_openM hMe436; have hv436_3 := hcc436 3 _ rfl; rw [add_field _ _ 3 (by omega)] at hv436_3; replace hv436_3 := Option.some.inj (hv436_3.symm.trans hx436_3); rw [hv436_3] at ge436_3; have HL436_3 := Aside0.mk (show Kd.R k45 45 _ _ _ _ ((rd_T43 t430 0).f3) from ge436_3); clear hv436_3 ge436_3; clear hcc436 hce436; have qi436 : (0 < t430.length) = True := eq_true (by omega); (try rw [show ((0 : Int)).toNat = 0 from rfl] at hx436_0); (try rw [show 0 * 4 = 0 from rfl] at hx436_0); (try rw [Addr.add_zero'] at hx436_0); (try rw [show ((0 : Int)).toNat = 0 from rfl] at hx436_1); (try rw [show 0 * 4 = 0 from rfl] at hx436_1); (try rw [Addr.add_zero'] at hx436_1); (try rw [show ((0 : Int)).toNat = 0 from rfl] at hx436_2); (try rw [show 0 * 4 = 0 from rfl] at hx436_2); (try rw [Addr.add_zero'] at hx436_2); (try rw [show ((0 : Int)).toNat = 0 from rfl] at hx436_3); (try rw [show 0 * 4 = 0 from rfl] at hx436_3); (try rw [Addr.add_zero'] at hx436_3); have HR436_3 := Aside0.mk hi436_3; have HC436_3 := Aside0.mk hl436_3; clear hi436_3 hl436_3; replace p436 := eq_true p436; replace q436 := eq_true q436))
         go_ret; exact ⟨qR, qB⟩
        rw [if_neg c13] at H; exact absurd H (by simp)
       rw [if_neg c12] at H; have c12b0 := beq_eq_false_iff_ne.mpr c12; have c12b1 := bne_iff_ne.mpr c12; obtain rfl := Option.some.inj H; obtain ⟨Ao23, co23, eo23⟩ := Kd.S_slice HO_1.out; subst eo23
       go_wp2_with (first | ((with_reducible refine gc 41 rfl ?_); refine gl (some 17) #[.slice Ao23 x1_1.length co23, .int .i64 0, .int .i64 1, .agg #[.int .i64 0, .int .i64 1, .string (⟨#[101]⟩ : ByteArray), .int .i64 0]] Tryd.func41 ?_; (with_reducible refine (tree_Tree_Put.calls k1 _ _ x1_1 0 1 0 1 (⟨#[101]⟩ : ByteArray) 0 t430 t433 t434 _ ?side1 ?side2 ?side3 A7.out).mono ?_); (case side1 => repeat (first | exact (Kd.S_reads' HO_1.out).2.2 | (with_reducible refine Kd.C_alloc ?_ _) | (with_reducible refine Kd.C_drewN ?_ _) | (with_reducible refine Kd.C_drew ?_))); (case side2 => exact (Kd.S_reads' HO_1.out).2.1); (case side3 => exact Laid.below HLD.out qB); rintro e w24 ⟨v431, rfl, ho0, hb⟩; refine ⟨_, rfl, ?_⟩; have n0_ := Aside0.mk (Kd.S_elder' (by (with_reducible repeat (first | apply Kd.S_alloc | apply Kd.S_drewN | apply Kd.S_drew)); exact HO_1.out) (Kd.S_base ho0) hb); have n1_ := Aside0.mk (Kd.S_lower (Kd.S_new' ho0 (Kd.S_lt (by (with_reducible repeat (first | apply Kd.S_alloc | apply Kd.S_drewN | apply Kd.S_drew)); exact HO_1.out))) (below_size qB)); have n2_ := bst hb; clear HO_1; clear HB; have HO_1 := n0_; have HO432 := n1_; have HB := n2_; clear n0_ n1_ n2_; (try clear hb); (try clear ho0); obtain ⟨Ao25, co25, eo25⟩ := Kd.S_slice HO432.out; subst eo25; have p435 : 0 ≤ (1 : Int) := (by omega); have q435 : 1 < (t430.length : Int) := qD; obtain ⟨ad435, A435_3, c435_3, e435, hx435_0, hx435_1, hx435_2, hx435_3, hl435_3, hi435_3⟩ := at_T43 (Kd.S_reads' HO432.out).2.2 1 p435 q435; cases e435; obtain ⟨ce435, hce435, hMe435, hcc435⟩ := Kd.S_get HO432.out z43 1 p435 (by first | exact q435 | exact qD | (have e_ := (Kd.S_reads' HO432.out).1; omega)); obtain ⟨ve435_3, rfl, ge435_3⟩ := k43_openM hMe435; have hv435_3 := hcc435 3 _ rfl; rw [add_field _ _ 3 (by omega)] at hv435_3; replace hv435_3 := Option.some.inj (hv435_3.symm.trans hx435_3); rw [hv435_3] at ge435_3; have HL435_3 := Aside0.mk (show Kd.R k45 45 _ _ _ _ ((rd_T43 t430 1).f3) from ge435_3); clear hv435_3 ge435_3; clear hcc435 hce435; (try simp only [show (1 : Int).toNat = 1 from rfl, Nat.reduceMul, Nat.reduceEqDiff, Go.Addr.add, ↓reduceIte] at hx435_0); (try simp only [show (1 : Int).toNat = 1 from rfl, Nat.reduceMul, Nat.reduceEqDiff, Go.Addr.add, ↓reduceIte] at hx435_1); (try simp only [show (1 : Int).toNat = 1 from rfl, Nat.reduceMul, Nat.reduceEqDiff, Go.Addr.add, ↓reduceIte] at hx435_2); (try simp only [show (1 : Int).toNat = 1 from rfl, Nat.reduceMul, Nat.reduceEqDiff, Go.Addr.add, ↓reduceIte] at hx435_3); have qi435 : (1 < t430.length) = True := eq_true (by omega); (try rw [show ((1 : Int)).toNat = 1 from rfl] at hx435_0); (try rw [show 1 * 4 = 4 from rfl] at hx435_0); (try rw [show ((1 : Int)).toNat = 1 from rfl] at hx435_1); (try rw [show 1 * 4 = 4 from rfl] at hx435_1); (try rw [show ((1 : Int)).toNat = 1 from rfl] at hx435_2); (try rw [show 1 * 4 = 4 from rfl] at hx435_2); (try rw [show ((1 : Int)).toNat = 1 from rfl] at hx435_3); (try rw [show 1 * 4 = 4 from rfl] at hx435_3); have HR435_3 := Aside0.mk hi435_3; have HC435_3 := Aside0.mk hl435_3; clear hi435_3 hl435_3; replace p435 := eq_true p435; replace q435 := eq_true q435))
       go_ret; exact ⟨qR, qB⟩
      rw [if_neg c11] at H; exact absurd H (by simp)
     rw [if_neg c10] at H; have c10b0 := beq_eq_false_iff_ne.mpr c10; have c10b1 := bne_iff_ne.mpr c10; obtain rfl := Option.some.inj H; obtain ⟨Ao26, co26, eo26⟩ := Kd.S_slice HO_1.out; subst eo26
     go_wp2_with (first | ((with_reducible refine gc 41 rfl ?_); refine gl (some 17) #[.slice Ao26 x1_1.length co26, .int .i64 0, .int .i64 1, .agg #[.int .i64 0, .int .i64 1, .string (⟨#[101]⟩ : ByteArray), .int .i64 0]] Tryd.func41 ?_; (with_reducible refine (tree_Tree_Put.calls k1 _ _ x1_1 0 1 0 1 (⟨#[101]⟩ : ByteArray) 0 t430 t433 t434 _ ?side1 ?side2 ?side3 A7.out).mono ?_); (case side1 => repeat (first | exact (Kd.S_reads' HO_1.out).2.2 | (with_reducible refine Kd.C_alloc ?_ _) | (with_reducible refine Kd.C_drewN ?_ _) | (with_reducible refine Kd.C_drew ?_))); (case side2 => exact (Kd.S_reads' HO_1.out).2.1); (case side3 => exact Laid.below HLD.out qB); rintro e w27 ⟨v431, rfl, ho0, hb⟩; refine ⟨_, rfl, ?_⟩; have n0_ := Aside0.mk (Kd.S_elder' (by (with_reducible repeat (first | apply Kd.S_alloc | apply Kd.S_drewN | apply Kd.S_drew)); exact HO_1.out) (Kd.S_base ho0) hb); have n1_ := Aside0.mk (Kd.S_lower (Kd.S_new' ho0 (Kd.S_lt (by (with_reducible repeat (first | apply Kd.S_alloc | apply Kd.S_drewN | apply Kd.S_drew)); exact HO_1.out))) (below_size qB)); have n2_ := bst hb; clear HO_1; clear HB; have HO_1 := n0_; have HO432 := n1_; have HB := n2_; clear n0_ n1_ n2_; (try clear hb); (try clear ho0); obtain ⟨Ao28, co28, eo28⟩ := Kd.S_slice HO432.out; subst eo28))
     go_ret; exact ⟨qR, qB⟩
    rw [if_neg c9] at H
    have c9b0 := beq_eq_false_iff_ne.mpr c9
    have c9b1 := bne_iff_ne.mpr c9
    obtain rfl := Option.some.inj H
    obtain ⟨Ao29, co29, eo29⟩ := Kd.S_slice HO_1.out
    subst eo29
    go_wp2_with (first | ((with_reducible refine gc 41 rfl ?_); refine gl (some 17) #[.slice Ao29 x1_1.length co29, .int .i64 0, .int .i64 1, .agg #[.int .i64 0, .int .i64 1, .string (⟨#[101]⟩ : ByteArray), .int .i64 0]] Tryd.func41 ?_; (with_reducible refine (tree_Tree_Put.calls k1 _ _ x1_1 0 1 0 1 (⟨#[101]⟩ : ByteArray) 0 t430 t433 t434 _ ?side1 ?side2 ?side3 A7.out).mono ?_); (case side1 => repeat (first | exact (Kd.S_reads' HO_1.out).2.2 | (with_reducible refine Kd.C_alloc ?_ _) | (with_reducible refine Kd.C_drewN ?_ _) | (with_reducible refine Kd.C_drew ?_))); (case side2 => exact (Kd.S_reads' HO_1.out).2.1); (case side3 => exact Laid.below HLD.out qB); rintro e w30 ⟨v431, rfl, ho0, hb⟩; refine ⟨_, rfl, ?_⟩; have n0_ := Aside0.mk (Kd.S_elder' (by (with_reducible repeat (first | apply Kd.S_alloc | apply Kd.S_drewN | apply Kd.S_drew)); exact HO_1.out) (Kd.S_base ho0) hb); have n1_ := Aside0.mk (Kd.S_lower (Kd.S_new' ho0 (Kd.S_lt (by (with_reducible repeat (first | apply Kd.S_alloc | apply Kd.S_drewN | apply Kd.S_drew)); exact HO_1.out))) (below_size qB)); have n2_ := bst hb; clear HO_1; clear HB; have HO_1 := n0_; have HO432 := n1_; have HB := n2_; clear n0_ n1_ n2_; (try clear hb); (try clear ho0)))
    go_ret
    exact ⟨qR, qB⟩
   rw [if_neg c8] at H
   have c8b0 := beq_eq_false_iff_ne.mpr c8
   have c8b1 := bne_iff_ne.mpr c8
   obtain rfl := Option.some.inj H
   obtain ⟨Ao31, co31, eo31⟩ := Kd.S_slice HO_1.out
   subst eo31
   go_wp2_with (first | ((with_reducible refine gc 41 rfl ?_); refine gl (some 17) #[.slice Ao31 x1_1.length co31, .int .i64 0, .int .i64 1, .agg #[.int .i64 0, .int .i64 1, .string (⟨#[101]⟩ : ByteArray), .int .i64 0]] Tryd.func41 ?_; (with_reducible refine (tree_Tree_Put.calls k1 _ _ x1_1 0 1 0 1 (⟨#[101]⟩ : ByteArray) 0 t430 t433 t434 _ ?side1 ?side2 ?side3 A7.out).mono ?_); (case side1 => repeat (first | exact (Kd.S_reads' HO_1.out).2.2 | (with_reducible refine Kd.C_alloc ?_ _) | (with_reducible refine Kd.C_drewN ?_ _) | (with_reducible refine Kd.C_drew ?_))); (case side2 => exact (Kd.S_reads' HO_1.out).2.1); (case side3 => exact Laid.below HLD.out qB); rintro e w32 ⟨v431, rfl, ho0, hb⟩; refine ⟨_, rfl, ?_⟩; have n0_ := Aside0.mk (Kd.S_elder' (by (with_reducible repeat (first | apply Kd.S_alloc | apply Kd.S_drewN | apply Kd.S_drew)); exact HO_1.out) (Kd.S_base ho0) hb); have n1_ := Aside0.mk (Kd.S_lower (Kd.S_new' ho0 (Kd.S_lt (by (with_reducible repeat (first | apply Kd.S_alloc | apply Kd.S_drewN | apply Kd.S_drew)); exact HO_1.out))) (below_size qB)); have n2_ := bst hb; clear HO_1; clear HB; have HO_1 := n0_; have HO432 := n1_; have HB := n2_; clear n0_ n1_ n2_; (try clear hb); (try clear ho0)))
   go_ret
   exact ⟨qR, qB⟩
end Go.Proofs.YtbngfhlciebeeaaDoor.L
end
section
namespace Go.Proofs.YtbngfhlciebeeaaDoor.Sp
set_option linter.unusedVariables false
set_option linter.unusedSimpArgs false
open Go.RowKit Go.Proofs.YtbngfhlciebeeaaDoor.L Go.Proofs.YtbngfhlciebeeaaDoorW.PrintWords
theorem copy_eq {l : List S43} (h1 : l.length ≤ 1000000) (h2 : ∀ x ∈ l, x.f3.length ≤ 1000000) : tree_Tree_Copy.f l = some l := by
  unfold tree_Tree_Copy.f
  exact if_pos ⟨by omega, fun x hx => by have := h2 x hx; omega⟩
theorem copy_small {l : List S43} (hs : smallT l) : tree_Tree_Copy.f l = some l := copy_eq hs.1 fun x hx => (hs.2 x hx).1
theorem has_in {l : List S43} {b : Int} (h : 0 ≤ b ∧ b < (l.length : Int)) : tree_Tree_has.f l b = some true := by
  unfold tree_Tree_has.f
  rw [if_pos h.1, decide_eq_true h.2]
theorem has_out {l : List S43} {b : Int} (h : ¬ (0 ≤ b ∧ b < (l.length : Int))) : tree_Tree_has.f l b = some false := by
  unfold tree_Tree_has.f
  by_cases h1 : b ≥ 0
  · rw [if_pos h1, decide_eq_false (fun h2 => h ⟨h1, h2⟩)]
  · rw [if_neg h1]
def growL (l : List S43) (b : Int) : List S43 × Int :=
  if 0 ≤ b ∧ b < (l.length : Int) then
    (if (rd_T43 l b).f2 ≥ 512 then (l, 41) else (l.set b.toNat ⟨(rd_T43 l b).f0, (rd_T43 l b).f1, (rd_T43 l b).f2 + 1, (rd_T43 l b).f3⟩, 0))
  else (l, 12)
theorem grow_eq {l : List S43} (hs : smallT l) (hl : ∀ b ∈ l, 0 ≤ b.f2) (b : Int) : tree_Tree_Grow.f l b = some (growL l b) := by
  unfold tree_Tree_Grow.f growL
  rw [copy_small hs]
  by_cases h : 0 ≤ b ∧ b < (l.length : Int)
  · obtain ⟨n, rfl⟩ := Int.eq_ofNat_of_zero_le h.1
    have hn : n < l.length := by omega
    have h0 := hl l[n] (List.getElem_mem hn)
    rw [has_in h, if_pos h]
    simp only [Option.bind_some, rd43 hn]
    rw [if_pos trivial, if_pos h.1, if_pos h.2]
    by_cases h2 : l[n].f2 ≥ 512
    · rw [if_pos h2, if_pos h2]
    · rw [if_neg h2, if_neg h2, if_pos h.2, wrap_at (by omega) (by omega)]
  · rw [has_out h, if_neg h]
    simp only [Option.bind_some]
    rw [if_neg (by decide)]
def inAt (x : S45) (at_ : Int) : S45 := ⟨at_, x.f1, x.f2, x.f3⟩
def putL (l : List S43) (b at_ : Int) (x : S45) : List S43 × Int × Int :=
  if 0 ≤ b ∧ b < (l.length : Int) then
    (if at_ < 0 ∨ at_ > (rd_T43 l b).f2 then (l, 0, 10)
    else if rightI (inAt x at_) = false then (l, 0, 11)
    else if at_ ≥ 512 then (l, 0, 41)
    else if at_ < (rd_T43 l b).f2 then
      (if (l.length : Int) ≥ 8 then (l, 0, 42) else (l ++ [⟨b, at_, at_ + 1, ahead at_ (rd_T43 l b).f3 ++ [inAt x at_]⟩], (l.length : Int), 0))
    else (l.set b.toNat ⟨(rd_T43 l b).f0, (rd_T43 l b).f1, at_ + 1, (rd_T43 l b).f3 ++ [inAt x at_]⟩, b, 0))
  else (l, 0, 12)
theorem put_j1 {l : List S43} (hs : smallT l) {n : Nat} (hn : n < l.length) {at_ : Int} (h0 : 0 ≤ at_) (h1 : at_ < 512) (x : S45) :
    Ev (fun k => tree_Tree_Put.j1 k l (n : Int) at_ at_ x.f1 x.f2 x.f3)
      (if at_ < l[n].f2 then (l ++ [⟨(n : Int), at_, at_ + 1, ahead at_ l[n].f3 ++ [inAt x at_]⟩], (l.length : Int), 0) else (l.set n ⟨l[n].f0, l[n].f1, at_ + 1, l[n].f3 ++ [inAt x at_]⟩, (n : Int), 0)) := by
  have hsz := hs.1
  have hb := hs.2 l[n] (List.getElem_mem hn)
  refine Ev.succ ?_
  simp only [tree_Tree_Put.j1]
  rw [copy_small hs]
  refine Ev.bind_some rfl (Ev.pos (by omega) (Ev.pos (by omega) ?_))
  rw [rd43 hn]
  by_cases h : at_ < l[n].f2
  · rw [if_pos h]
    refine Ev.pos h (Ev.bind (ahead_ev _ _ _ _ _ hb.1) (Ev.pos (by omega) (Ev.bind_some rfl ?_)))
    have hal : (ahead at_ l[n].f3).length ≤ 1000000 := by
      unfold ahead
      exact Nat.le_trans (List.length_filter_le _ _) hb.1
    generalize ahead at_ l[n].f3 = ah at hal ⊢
    have hlen : ((l ++ [(⟨(n : Int), at_, 0, ah⟩ : S43)]).length : Int) = (l.length : Int) + 1 := by simp
    have hw : wrap64 ((l.length : Int) + 1 - 1) = (l.length : Int) := by rw [wrap_at (by omega) (by omega)]; omega
    have hlen2 : l.length < (l ++ [(⟨(n : Int), at_, 0, ah⟩ : S43)]).length := by simp
    have hr : rd_T43 (l ++ [(⟨(n : Int), at_, 0, ah⟩ : S43)]) (l.length : Int) = ⟨(n : Int), at_, 0, ah⟩ := by rw [rd43 hlen2]; simp
    simp only [hlen, hw, hr]
    refine Ev.pos (by omega) (Ev.pos (by omega) (Ev.pos (by omega) (Ev.bind_some rfl ?_)))
    simp only [Int.toNat_natCast]
    have hset : ∀ y : S43, (l ++ [(⟨(n : Int), at_, 0, ah⟩ : S43)]).set l.length y = l ++ [y] := fun y => by
      rw [List.set_append_right _ _ (Nat.le_refl _), Nat.sub_self]; rfl
    rw [hset]
    have hlen3 : l.length < (l ++ [(⟨(n : Int), at_, 0, ah ++ [(⟨at_, x.f1, x.f2, x.f3⟩ : S45)]⟩ : S43)]).length := by simp
    have hr3 : rd_T43 (l ++ [(⟨(n : Int), at_, 0, ah ++ [(⟨at_, x.f1, x.f2, x.f3⟩ : S45)]⟩ : S43)]) (l.length : Int) = ⟨(n : Int), at_, 0, ah ++ [⟨at_, x.f1, x.f2, x.f3⟩]⟩ := by rw [rd43 hlen3]; simp
    refine Ev.some ?_
    rw [hr3, wrap_at (by omega) (by omega), List.set_append_right _ _ (Nat.le_refl _), Nat.sub_self]
    rfl
  · rw [if_neg h]
    refine Ev.neg h (Ev.pos (by omega) (Ev.pos (by omega) (Ev.bind_some rfl (Ev.some ?_))))
    have hl2 : n < (l.set n (⟨l[n].f0, l[n].f1, l[n].f2, l[n].f3 ++ [(⟨at_, x.f1, x.f2, x.f3⟩ : S45)]⟩ : S43)).length := by rw [List.length_set]; exact hn
    simp only [Int.toNat_natCast]
    rw [rd43 hl2, wrap_at (by omega) (by omega), List.getElem_set_self, List.set_set]
    rfl
theorem put_ev {l : List S43} (hs : smallT l) (b at_ : Int) (x : S45) (hx : x.f2.size ≤ 1000000) : Ev (fun k => tree_Tree_Put.f k l b at_ x.f0 x.f1 x.f2 x.f3) (putL l b at_ x) := by
  have hc := copy_small hs
  unfold tree_Tree_Put.f putL
  by_cases h : 0 ≤ b ∧ b < (l.length : Int)
  · obtain ⟨n, rfl⟩ := Int.eq_ofNat_of_zero_le h.1
    have hn : n < l.length := by omega
    rw [if_pos h, rd43 hn]
    refine Ev.bind_some (has_in h) (Ev.pos rfl ?_)
    have hj0 : Ev (fun k => tree_Tree_Put.j0 k l (n : Int) at_ true at_ x.f1 x.f2 x.f3) (l, 0, 10) := by
      refine Ev.succ ?_
      simp only [tree_Tree_Put.j0]
      exact Ev.pos trivial (Ev.bind_some hc (Ev.some rfl))
    by_cases h1 : at_ < 0
    · rw [if_pos (Or.inl h1)]
      exact Ev.pos h1 hj0
    refine Ev.neg h1 (Ev.pos h.1 (Ev.pos h.2 ?_))
    by_cases h2 : at_ > l[n].f2
    · rw [if_pos (Or.inr h2), decide_eq_true h2]
      exact hj0
    rw [if_neg (by omega), decide_eq_false h2]
    refine Ev.succ ?_
    simp only [tree_Tree_Put.j0]
    have hi := inputRight_ev (inAt x at_) hx
    refine Ev.neg (by decide) (Ev.bind hi ?_)
    cases hr : rightI (inAt x at_) with
    | false =>
      rw [if_pos rfl]
      exact Ev.neg (by decide) (Ev.bind_some hc (Ev.some rfl))
    | true =>
      rw [if_neg (by decide)]
      refine Ev.pos rfl ?_
      by_cases h3 : at_ ≥ 512
      · rw [if_pos h3]
        exact Ev.pos h3 (Ev.bind_some hc (Ev.some rfl))
      rw [if_neg h3]
      have hj1 := put_j1 hs hn (show 0 ≤ at_ by omega) (show at_ < 512 by omega) x
      rw [rd43 hn]
      refine Ev.neg h3 (Ev.pos h.1 (Ev.pos h.2 ?_))
      by_cases h4 : at_ < l[n].f2
      · rw [if_pos h4] at hj1 ⊢
        refine Ev.pos h4 ?_
        by_cases h5 : (l.length : Int) ≥ 8
        · rw [if_pos h5]
          exact Ev.pos h5 (Ev.bind_some hc (Ev.some rfl))
        · rw [if_neg h5]
          exact Ev.neg h5 hj1
      · rw [if_neg h4] at hj1 ⊢
        exact Ev.neg h4 hj1
  · rw [if_neg h]
    exact Ev.bind_some (has_out h) (Ev.neg (by decide) (Ev.bind_some hc (Ev.some rfl)))
theorem small_one (a b c : Int) : smallT [⟨a, b, c, []⟩] := ⟨by simp, fun x hx => by
  rw [List.mem_singleton.1 hx]; exact ⟨by simp, fun y hy => by cases hy⟩⟩
theorem anchor22_ev : Ev (fun k => whirligiglaw22_anchor.f k) true := by
  unfold whirligiglaw22_anchor.f
  refine Ev.bind_some (show tree_New.f = some [⟨-1, 0, 0, []⟩] from rfl) ?_
  have hg : ∀ c : Int, 0 ≤ c → c < 512 → tree_Tree_Grow.f [⟨-1, 0, c, []⟩] 0 = some ([⟨-1, 0, c + 1, []⟩], 0) := fun c h0 h1 => by
    rw [grow_eq (small_one _ _ _) (fun b hb => by rw [List.mem_singleton.1 hb]; exact h0)]
    unfold growL
    rw [if_pos (by simp), show rd_T43 [(⟨-1, 0, c, []⟩ : S43)] 0 = ⟨-1, 0, c, []⟩ from rfl, if_neg (by simp only; omega)]
    rfl
  have w1 : wrap64 (0 + 1) = 1 := wrap_at (by omega) (by omega)
  have w2 : wrap64 (1 + 1) = 2 := wrap_at (by omega) (by omega)
  have w3 : wrap64 (2 + 1) = 3 := wrap_at (by omega) (by omega)
  refine Ev.succ ?_
  simp only [whirligiglaw22_anchor.l0, w1]
  refine Ev.pos (by omega) (Ev.bind_some (hg 0 (by omega) (by omega)) ?_)
  refine Ev.succ ?_
  simp only [whirligiglaw22_anchor.l0, w2]
  refine Ev.pos (by decide) (Ev.bind_some (hg (0 + 1) (by omega) (by omega)) ?_)
  refine Ev.succ ?_
  simp only [whirligiglaw22_anchor.l0, w3]
  refine Ev.pos (by decide) (Ev.bind_some (hg (0 + 1 + 1) (by omega) (by omega)) ?_)
  refine Ev.succ ?_
  simp only [whirligiglaw22_anchor.l0]
  refine Ev.neg (by decide) ?_
  have hp := put_ev (small_one (-1) 0 (0 + 1 + 1 + 1)) 0 1 ⟨0, 1, ⟨#[101]⟩, 0⟩ (by decide)
  rw [show putL [⟨-1, 0, 0 + 1 + 1 + 1, []⟩] 0 1 ⟨0, 1, ⟨#[101]⟩, 0⟩ = ([⟨-1, 0, 3, []⟩, ⟨0, 1, 2, [⟨1, 1, ⟨#[101]⟩, 0⟩]⟩], 1, 0) by kernel_rfl] at hp
  refine Ev.bind hp (Ev.pos rfl (Ev.pos rfl (Ev.pos rfl (Ev.pos (by decide) (Ev.pos rfl (Ev.pos (by decide) (Ev.pos rfl ?_)))))))
  have hr := right_ev [⟨-1, 0, 3, []⟩, ⟨0, 1, 2, [⟨1, 1, ⟨#[101]⟩, 0⟩]⟩] ⟨by simp, fun x hx => by
    simp only [List.mem_cons, List.not_mem_nil, or_false] at hx
    rcases hx with rfl | rfl
    · exact ⟨by simp, fun y hy => by cases hy⟩
    · exact ⟨by simp, fun y hy => by rw [List.mem_singleton.1 hy]; decide⟩⟩
  rw [show rightTree [⟨-1, 0, 3, []⟩, ⟨0, 1, 2, [⟨1, 1, ⟨#[101]⟩, 0⟩]⟩] = true by kernel_rfl] at hr
  exact Ev.bind hr (Ev.some rfl)
theorem rightFrom_iff (l : List S43) : ∀ (bs : List S43) (i : Nat), rightFrom l i bs = true ↔ ∀ (j : Nat) (h : j < bs.length), branchOk l (i + j) bs[j] = true
  | [], i => by simp [rightFrom]
  | b :: bs, i => by
    simp only [rightFrom, Bool.and_eq_true]
    rw [rightFrom_iff l bs (i + 1)]
    constructor
    · rintro ⟨h0, h1⟩ j hj
      cases j with
      | zero => exact h0
      | succ j =>
        have := h1 j (by simpa using hj)
        rw [show i + 1 + j = i + (j + 1) by omega] at this
        simpa using this
    · intro h
      refine ⟨h 0 (by simp), fun j hj => ?_⟩
      have := h (j + 1) (by simpa using hj)
      rw [show i + (j + 1) = i + 1 + j by omega] at this
      simpa using this
theorem rightTree_iff {l : List S43} : rightTree l = true ↔ 1 ≤ l.length ∧ l.length ≤ 8 ∧ ∀ (j : Nat) (h : j < l.length), branchOk l j l[j] = true := by
  unfold rightTree
  rw [Bool.and_eq_true, Bool.and_eq_true, decide_eq_true_iff, decide_eq_true_iff, rightFrom_iff]
  simp
def nameB (b : S43) : Prop := ∀ x ∈ b.f3, x.f2.size ≤ 200
def okT (l : List S43) : Prop := rightTree l = true ∧ ∀ b ∈ l, nameB b
theorem goodB_iff {len : Int} {xs : List S45} : goodB len xs = true ↔ 0 ≤ len ∧ len ≤ 512 ∧ rising len (-1) xs = true := by
  unfold goodB
  simp [Bool.and_eq_true]
theorem branchOk_good {l : List S43} {i : Nat} {b : S43} (h : branchOk l i b = true) : goodB b.f2 b.f3 = true := by
  unfold branchOk at h
  rw [Bool.and_eq_true] at h
  exact h.1
theorem okT_good {l : List S43} (h : okT l) {b : S43} (hb : b ∈ l) : goodB b.f2 b.f3 = true := by
  obtain ⟨j, hj, rfl⟩ := List.getElem_of_mem hb
  exact branchOk_good ((rightTree_iff.1 h.1).2.2 j hj)
theorem okT_len {l : List S43} (h : okT l) {b : S43} (hb : b ∈ l) : 0 ≤ b.f2 ∧ b.f2 ≤ 512 := by
  have := goodB_iff.1 (okT_good h hb)
  exact ⟨this.1, this.2.1⟩
theorem okT_small {l : List S43} (h : okT l) : smallT l := by
  have h8 := (rightTree_iff.1 h.1).2.1
  refine ⟨by omega, fun b hb => ⟨?_, fun x hx => by have := h.2 b hb x hx; omega⟩⟩
  obtain ⟨h0, h1, h2⟩ := goodB_iff.1 (okT_good h hb)
  by_cases h3 : -1 < b.f2
  · have := rising_len h2 h3
    omega
  · omega
theorem forkedB_iff {l : List S43} {i : Nat} {b : S43} : forkedB l i b = true ↔ 0 ≤ b.f0 ∧ b.f0 < (i : Int) ∧ 0 ≤ b.f1 ∧ b.f1 < (rd_T43 l b.f0).f2 ∧ b.f1 < b.f2 ∧ hasAt b.f1 b.f3 = true ∧ ahead b.f1 b.f3 = ahead b.f1 (rd_T43 l b.f0).f3 := by
  unfold forkedB
  simp only [Bool.and_eq_true, decide_eq_true_iff, eqL_iff]
theorem branchOk_iff {l : List S43} {i : Nat} {b : S43} : branchOk l i b = true ↔ goodB b.f2 b.f3 = true ∧ (i = 0 → b.f0 = -1 ∧ b.f1 = 0) ∧ (i ≠ 0 → forkedB l i b = true) := by
  unfold branchOk
  rw [Bool.and_eq_true]
  by_cases h : i = 0
  · rw [if_pos h]; simp [h]
  · rw [if_neg h]; simp [h]
theorem rising_more {len len' : Int} (hle : len ≤ len') : ∀ {xs : List S45} {last : Int}, rising len last xs = true → rising len' last xs = true
  | [], _, _ => rfl
  | x :: xs, last, h => by
    obtain ⟨a, b, c, d⟩ := rising_cons.1 h
    exact rising_cons.2 ⟨a, b, by omega, rising_more hle d⟩
theorem rising_put {len a : Int} {x : S45} (hx : rightI x = true) (hf : x.f0 = a) : ∀ {xs : List S45} {last : Int}, rising len last xs = true → last < a → rising (a + 1) last (ahead a xs ++ [x]) = true
  | [], last, _, hl => by
    show rising (a + 1) last [x] = true
    exact rising_cons.2 ⟨hx, by omega, by omega, rfl⟩
  | y :: ys, last, h, hl => by
    obtain ⟨r0, r1, r2, r3⟩ := rising_cons.1 h
    by_cases hy : y.f0 < a
    · have e : ahead a (y :: ys) = y :: ahead a ys := by unfold ahead; rw [List.filter_cons_of_pos (by simpa using hy)]
      rw [e, List.cons_append]
      exact rising_cons.2 ⟨r0, r1, by omega, rising_put hx hf r3 hy⟩
    · have e : ahead a (y :: ys) = [] := ahead_none (len := len) (last := a - 1) (rising_cons.2 ⟨r0, by omega, r2, r3⟩) (by omega)
      rw [e]
      exact rising_cons.2 ⟨hx, by omega, by omega, rfl⟩
theorem ahead_all {a : Int} {xs : List S45} (h : ∀ x ∈ xs, x.f0 < a) : ahead a xs = xs := by
  unfold ahead
  rw [List.filter_eq_self]
  intro x hx
  simpa using h x hx
theorem ahead_snoc {a : Int} {xs : List S45} {x : S45} (h : a ≤ x.f0) : ahead a (xs ++ [x]) = ahead a xs := by
  unfold ahead
  rw [List.filter_append, List.filter_cons_of_neg (by simp; omega)]
  simp
theorem ahead_ahead {a : Int} {xs : List S45} : ahead a (ahead a xs) = ahead a xs := by
  unfold ahead
  rw [List.filter_filter]
  simp
theorem ahead_sub {a : Int} {xs : List S45} {x : S45} (h : x ∈ ahead a xs) : x ∈ xs := (List.mem_filter.1 h).1
theorem okT_set {l : List S43} (h : okT l) {n : Nat} (hn : n < l.length) {b : S43} (h0 : b.f0 = l[n].f0) (h1 : b.f1 = l[n].f1) (h2 : l[n].f2 ≤ b.f2) (hg : goodB b.f2 b.f3 = true) (hN : nameB b)
    (ha : ∀ a, a ≤ l[n].f2 → ahead a b.f3 = ahead a l[n].f3) (hh : ∀ a, hasAt a l[n].f3 = true → hasAt a b.f3 = true) : okT (l.set n b) := by
  obtain ⟨e1, e8, eb⟩ := rightTree_iff.1 h.1
  refine ⟨rightTree_iff.2 ⟨by simpa using e1, by simpa using e8, fun j hj => ?_⟩, fun c hc => ?_⟩
  · have hj' : j < l.length := by simpa using hj
    have hrd : ∀ p : Int, 0 ≤ p → p < (l.length : Int) → (rd_T43 l p).f2 ≤ (rd_T43 (l.set n b) p).f2 ∧ ∀ a, a ≤ (rd_T43 l p).f2 → ahead a (rd_T43 (l.set n b) p).f3 = ahead a (rd_T43 l p).f3 := by
      intro p p0 p1
      obtain ⟨m, rfl⟩ := Int.eq_ofNat_of_zero_le p0
      have hm : m < l.length := by omega
      rw [rd43 hm, rd43 (by simpa using hm), List.getElem_set]
      by_cases hmn : n = m
      · subst hmn
        rw [if_pos rfl]
        exact ⟨h2, ha⟩
      · rw [if_neg hmn]
        exact ⟨Int.le_refl _, fun _ _ => rfl⟩
    have hold := branchOk_iff.1 (eb j hj')
    have hcommon : ∀ c : S43, c.f0 = l[j].f0 → c.f1 = l[j].f1 → l[j].f2 ≤ c.f2 → goodB c.f2 c.f3 = true → (∀ a, a ≤ l[j].f2 → ahead a c.f3 = ahead a l[j].f3) → (∀ a, hasAt a l[j].f3 = true → hasAt a c.f3 = true) → branchOk (l.set n b) j c = true := by
      intro c c0 c1 c2 cg ca ch
      refine branchOk_iff.2 ⟨cg, fun hj0 => by rw [c0, c1]; exact hold.2.1 hj0, fun hj0 => ?_⟩
      obtain ⟨f0, f1, f2, f3, f4, f5, f6⟩ := forkedB_iff.1 (hold.2.2 hj0)
      obtain ⟨r1, r2⟩ := hrd l[j].f0 f0 (by omega)
      rw [forkedB_iff, c0, c1]
      exact ⟨f0, f1, f2, by omega, by omega, ch _ f5, by rw [ca _ (by omega), r2 _ (by omega), f6]⟩
    rw [List.getElem_set]
    by_cases hmn : n = j
    · subst hmn
      rw [if_pos rfl]
      exact hcommon b h0 h1 h2 hg ha hh
    · rw [if_neg hmn]
      exact hcommon l[j] rfl rfl (Int.le_refl _) hold.1 (fun _ _ => rfl) (fun _ h => h)
  · rcases List.mem_or_eq_of_mem_set hc with hc | rfl
    · exact h.2 c hc
    · exact hN
theorem okT_snoc {l : List S43} (h : okT l) (h8 : l.length < 8) {b : S43} (hg : goodB b.f2 b.f3 = true) (hN : nameB b) (hf : forkedB l l.length b = true) : okT (l ++ [b]) := by
  obtain ⟨e1, e8, eb⟩ := rightTree_iff.1 h.1
  have hrd : ∀ p : Int, 0 ≤ p → p < (l.length : Int) → rd_T43 (l ++ [b]) p = rd_T43 l p := by
    intro p p0 p1
    obtain ⟨m, rfl⟩ := Int.eq_ofNat_of_zero_le p0
    have hm : m < l.length := by omega
    rw [rd43 hm, rd43 (by simp; omega), List.getElem_append_left hm]
  have hsame : ∀ (j : Nat) (c : S43), j ≤ l.length → forkedB l j c = true → forkedB (l ++ [b]) j c = true := by
    intro j c hj hc
    obtain ⟨f0, f1, f2, f3, f4, f5, f6⟩ := forkedB_iff.1 hc
    rw [forkedB_iff, hrd _ f0 (by omega)]
    exact ⟨f0, f1, f2, f3, f4, f5, f6⟩
  refine ⟨rightTree_iff.2 ⟨by simp, by simp; omega, fun j hj => ?_⟩, fun c hc => ?_⟩
  · by_cases hjl : j < l.length
    · rw [List.getElem_append_left hjl]
      have hold := branchOk_iff.1 (eb j hjl)
      exact branchOk_iff.2 ⟨hold.1, hold.2.1, fun hj0 => hsame j _ (by omega) (hold.2.2 hj0)⟩
    · have hje : j = l.length := by simp at hj; omega
      subst hje
      rw [List.getElem_append_right (Nat.le_refl _)]
      simp only [Nat.sub_self, List.getElem_cons_zero]
      exact branchOk_iff.2 ⟨hg, fun h0 => by omega, fun _ => hsame _ _ (Nat.le_refl _) hf⟩
  · rcases List.mem_append.1 hc with hc | hc
    · exact h.2 c hc
    · rw [List.mem_singleton.1 hc]; exact hN
theorem okT_grow {l : List S43} (h : okT l) (b : Int) : okT (growL l b).1 := by
  unfold growL
  by_cases hb : 0 ≤ b ∧ b < (l.length : Int)
  · rw [if_pos hb]
    by_cases h5 : (rd_T43 l b).f2 ≥ 512
    · rw [if_pos h5]; exact h
    · rw [if_neg h5]
      obtain ⟨n, rfl⟩ := Int.eq_ofNat_of_zero_le hb.1
      have hn : n < l.length := by omega
      rw [rd43 hn] at h5 ⊢
      have hg := goodB_iff.1 (okT_good h (List.getElem_mem hn))
      exact okT_set h hn rfl rfl (by simp only; omega) (goodB_iff.2 ⟨by simp only; omega, by simp only; omega, rising_more (by simp only; omega) hg.2.2⟩) (fun y hy => h.2 _ (List.getElem_mem hn) y hy) (fun _ _ => rfl) (fun _ h => h)
  · rw [if_neg hb]; exact h
theorem hasAt_snoc {a : Int} {xs : List S45} {x : S45} : hasAt a xs = true → hasAt a (xs ++ [x]) = true := by
  rw [hasAt_iff, hasAt_iff]
  rintro ⟨y, hy, he⟩
  exact ⟨y, List.mem_append_left _ hy, he⟩
theorem okT_put {l : List S43} (h : okT l) (b at_ : Int) {x : S45} (hx : x.f2.size ≤ 200) : okT (putL l b at_ x).1 := by
  unfold putL
  by_cases hb : 0 ≤ b ∧ b < (l.length : Int)
  · rw [if_pos hb]
    obtain ⟨n, rfl⟩ := Int.eq_ofNat_of_zero_le hb.1
    have hn : n < l.length := by omega
    rw [rd43 hn]
    by_cases h1 : at_ < 0 ∨ at_ > l[n].f2
    · rw [if_pos h1]; exact h
    rw [if_neg h1]
    by_cases h2 : rightI (inAt x at_) = false
    · rw [if_pos h2]; exact h
    rw [if_neg h2]
    by_cases h3 : at_ ≥ 512
    · rw [if_pos h3]; exact h
    rw [if_neg h3]
    have hg := goodB_iff.1 (okT_good h (List.getElem_mem hn))
    have hr : rightI (inAt x at_) = true := by simpa using h2
    have hput : rising (at_ + 1) (-1) (ahead at_ l[n].f3 ++ [inAt x at_]) = true := rising_put hr rfl hg.2.2 (show -1 < at_ by omega)
    have hname : ∀ y ∈ l[n].f3, y.f2.size ≤ 200 := h.2 _ (List.getElem_mem hn)
    by_cases h4 : at_ < l[n].f2
    · rw [if_pos h4]
      by_cases h5 : (l.length : Int) ≥ 8
      · rw [if_pos h5]; exact h
      · rw [if_neg h5]
        refine okT_snoc h (by omega) (goodB_iff.2 ⟨by simp only; omega, by simp only; omega, hput⟩) (fun y hy => ?_) (forkedB_iff.2 ?_)
        · rcases List.mem_append.1 hy with hy | hy
          · exact hname y (ahead_sub hy)
          · rw [List.mem_singleton.1 hy]; exact hx
        · simp only
          rw [rd43 hn]
          refine ⟨by omega, by omega, by omega, h4, by omega, ?_, ?_⟩
          · rw [hasAt_iff]
            exact ⟨inAt x at_, List.mem_append_right _ (List.mem_singleton.2 rfl), rfl⟩
          · rw [ahead_snoc (show at_ ≤ (inAt x at_).f0 from Int.le_refl _), ahead_ahead]
    · rw [if_neg h4]
      have hat : at_ = l[n].f2 := by omega
      have hall : ahead at_ l[n].f3 = l[n].f3 := ahead_all fun y hy => by
        have := (rising_mem hg.2.2 y hy).2.2
        omega
      rw [hall] at hput
      refine okT_set h hn rfl rfl (by simp only; omega) (goodB_iff.2 ⟨by simp only; omega, by simp only; omega, hput⟩) (fun y hy => ?_) (fun a ha => ?_) (fun a ha => hasAt_snoc ha)
      · rcases List.mem_append.1 hy with hy | hy
        · exact hname y hy
        · rw [List.mem_singleton.1 hy]; exact hx
      · exact ahead_snoc (by show a ≤ at_; omega)
  · rw [if_neg hb]; exact h
theorem okT_new : okT [⟨-1, 0, 0, []⟩] := ⟨by decide, fun b hb => by rw [List.mem_singleton.1 hb]; intro x hx; cases hx⟩
end Go.Proofs.YtbngfhlciebeeaaDoor.Sp
end
section
namespace Go.Proofs.YtbngfhlciebeeaaDoor.L
open Go.RowKit Go.Proofs.YtbngfhlciebeeaaDoorW.PrintWords Go.Proofs.YtbngfhlciebeeaaDoorW.PrintLast Go.Proofs.YtbngfhlciebeeaaDoorW.PrintMore
attribute [local go_sem] max2_int min2_int max_two min_two max_three min_three max_four min_four   -- for this text's walks alone
set_option linter.unusedVariables false
set_option linter.unusedSimpArgs false
def whirligiglaw22_small.l0 : Nat → List (S56) → List (S56) → Int → Int → Option (Bool)
 | 0, _, _, _, _ => none
 | k + 1, x0, x5, x6, x7 => if x7 < x6 then (if 0 ≤ x7 then (if x7 < (x5.length : Int) then (if (((rd_T56 x5 x7).f3.f2).size : Int) > 200 then (some false) else (whirligiglaw22_small.l0 k x0 x5 x6 (wrap64 (x7 + 1)))) else (none)) else (none)) else (some (decide ((x0.length : Int) ≤ 700)))
def whirligiglaw22_small.f (k : Nat) (l0 : List (S56)) : Option (Bool) := whirligiglaw22_small.l0 k l0 l0 (l0.length : Int) 0
set_option maxHeartbeats 8000000 in
set_option maxRecDepth 100000 in
theorem whirligiglaw22_small.calls (k : Nat) (A0 : Option Addr) (c0 : Nat) (l0 : List (S56)) (r : Bool) (w : World) (hr0 : Kd.C k56 w A0 l0.length l0) (hc0 : l0.length ≤ c0) (h : whirligiglaw22_small.f k l0 = some r) :
  Calls Tryd.prog 38 #[.slice A0 l0.length c0] w fun e w' => e = .returned (.bool r) ∧ Below w.heap.size w w' := by
 have hu56 := Tryd.underlying56
 have HR0 := Aside0.mk hr0
 have HC0 := Aside0.mk hc0
 clear hr0 hc0
 have HB := Aside0.mk (Below.refl w.heap.size w)
 have H : (whirligiglaw22_small.l0 k l0 l0 (l0.length : Int) 0) = some r := h
 clear h
 have H' := Aside0.mk H
 clear H
 go_enter Tryd.func38, Tryd.ntmps38
 go_wp2
 go_loopg [7] k (fun kq v7 w' => ∃ (x7_1 : Int), v7 = .int .i64 x7_1 ∧ Aside0 (whirligiglaw22_small.l0 kq l0 l0 (l0.length : Int) x7_1 = some r) ∧ Aside0 (kq ≤ k) ∧ Aside0 (Below w.heap.size w w'))
 case atStart => exact ⟨(0), qE, H', ⟨Nat.le_refl _⟩, ⟨qB⟩⟩
 case round =>
  clear H'
  obtain ⟨x7_1, rfl, HA, HK1, HB⟩ := hrel
  cases gk with
  | zero => exact absurd HA.out (by simp [whirligiglaw22_small.l0])
  | succ k1 =>
   have H := HA.out
   clear HA
   simp only [whirligiglaw22_small.l0] at H
   replace H := iD H
   rcases H with ⟨c2b0, H⟩ | ⟨c2b0, H⟩
   ·by_cases c3 : 0 ≤ x7_1
    ·rw [if_pos c3] at H; have c3b0 := decide_eq_true c3; clear c3; replace H := iD H
     rcases H with ⟨c4b0, H⟩ | ⟨c4b0, H⟩
     ·by_cases c5 : (((rd_T56 l0 x7_1).f3.f2).size : Int) > 200
      ·rw [if_pos c5] at H; have c5b0 := decide_eq_true c5; have c5b1 : decide (200 < ((rd_T56 l0 x7_1).f3.f2).size) = true := decide_eq_true (by omega); clear c5; obtain rfl := Option.some.inj H; have p496 : 0 ≤ (x7_1 : Int) := qD; have q496 : x7_1 < (l0.length : Int) := qD; obtain ⟨ad496, e496, hx496_0, hx496_1, hx496_2, hx496_3, hx496_4, hx496_5, hx496_6⟩ := at_T56 (Kd.C_below HR0.out HB.out) x7_1 p496 q496; cases e496; replace p496 := eq_true p496; replace q496 := eq_true q496
       go_wp2_with (first | ((with_reducible refine gd 4 rfl ?_); refine bxx 4 #[.int .i64 0, .int .i64 0, .int .i64 0, .int .i64 0, .int .i64 0, .string (⟨#[]⟩ : ByteArray), .int .i64 0] 56 ?_; intro gb497 w6 BK497 GW497 HB; obtain ⟨_, _, _, _, _, _, _, _, _, _, _, _, _, _⟩ := cells7 BK497.out))
       go_ret; exact ⟨qR, qB⟩
      rw [if_neg c5] at H; have c5b0 := decide_eq_false c5; have c5b1 : decide (200 < ((rd_T56 l0 x7_1).f3.f2).size) = false := decide_eq_false (by omega); clear c5; have H' := Aside0.mk H; clear H; have p496 : 0 ≤ (x7_1 : Int) := qD; have q496 : x7_1 < (l0.length : Int) := qD; obtain ⟨ad496, e496, hx496_0, hx496_1, hx496_2, hx496_3, hx496_4, hx496_5, hx496_6⟩ := at_T56 (Kd.C_below HR0.out HB.out) x7_1 p496 q496; cases e496; replace p496 := eq_true p496; replace q496 := eq_true q496
      go_wp2_with (first | ((with_reducible refine gd 4 rfl ?_); refine bxx 4 #[.int .i64 0, .int .i64 0, .int .i64 0, .int .i64 0, .int .i64 0, .string (⟨#[]⟩ : ByteArray), .int .i64 0] 56 ?_; intro gb497 w8 BK497 GW497 HB; obtain ⟨_, _, _, _, _, _, _, _, _, _, _, _, _, _⟩ := cells7 BK497.out))
      go_roundg k1
      case measure => have := HK1.out; omega
      case rel => exact ⟨(wrap64 (x7_1 + 1)), qE, H', ⟨by have := HK1.out; omega⟩, ⟨qB⟩⟩
     exact absurd H (by simp)
    rw [if_neg c3] at H
    exact absurd H (by simp)
   obtain rfl := Option.some.inj H
   go_wp2
   go_ret
   exact ⟨qR, qB⟩
end Go.Proofs.YtbngfhlciebeeaaDoor.L
end
section
namespace Go.Proofs.YtbngfhlciebeeaaDoor.Sp
set_option linter.unusedVariables false
set_option linter.unusedSimpArgs false
open Go.RowKit Go.Proofs.YtbngfhlciebeeaaDoor.L Go.Proofs.YtbngfhlciebeeaaDoorW.PrintWords
theorem rd56 {l : List S56} {j : Nat} (h : j < l.length) : rd_T56 l (j : Int) = l[j] := by
  unfold rd_T56
  rw [Int.toNat_natCast, List.getD_eq_getElem?_getD, List.getElem?_eq_getElem h]; rfl
def smallO (l : List S56) : Bool := l.all fun o => decide (o.f3.f2.size ≤ 200)
theorem smallOp_l (l : List S56) (hl : l.length ≤ 9223372036854775807) (d : Nat) : ∀ j, j ≤ l.length → l.length - j = d →
    Ev (fun k => whirligiglaw22_small.l0 k l l (l.length : Int) (j : Int)) (smallO (l.drop j) && decide (l.length ≤ 700)) := by
  induction d with
  | zero =>
    intro j hj hd
    refine Ev.succ ?_
    simp only [whirligiglaw22_small.l0]
    refine Ev.neg (by omega) (Ev.some ?_)
    rw [List.drop_eq_nil_of_le (by omega)]
    simp [smallO]
    omega
  | succ d ih =>
    intro j hj hd
    have hjl : j < l.length := by omega
    refine Ev.succ ?_
    simp only [whirligiglaw22_small.l0]
    rw [rd56 hjl, wrap_at (by omega) (by omega), List.drop_eq_getElem_cons hjl]
    refine Ev.pos (by omega) (Ev.pos (by omega) (Ev.pos (by omega) ?_))
    by_cases h : (l[j].f3.f2.size : Int) > 200
    · refine Ev.pos h (Ev.some ?_)
      simp only [smallO, List.all_cons]
      rw [decide_eq_false (by omega)]
      simp
    · refine Ev.neg h ?_
      have := ih (j + 1) (by omega) (by omega)
      simp only [smallO, List.all_cons]
      rw [decide_eq_true (show l[j].f3.f2.size ≤ 200 by omega), Bool.true_and]
      exact this
theorem smallOp_ev (l : List S56) (hl : l.length ≤ 9223372036854775807) : Ev (fun k => whirligiglaw22_small.f k l) (smallO l && decide (l.length ≤ 700)) := by
  unfold whirligiglaw22_small.f
  exact smallOp_l l hl _ 0 (by omega) rfl
theorem smallO_mem {l : List S56} (h : smallO l = true) {o : S56} (ho : o ∈ l) : o.f3.f2.size ≤ 200 := by
  have := (List.all_eq_true.1 h) o ho
  simpa using this
def opL (l : List S43) (o : S56) : List S43 := if o.f0 = 1 then (growL l o.f1).1 else if o.f0 = 2 then (putL l o.f1 o.f2 o.f3).1 else l
theorem okT_op {l : List S43} (h : okT l) {o : S56} (ho : o.f3.f2.size ≤ 200) : okT (opL l o) := by
  unfold opL
  by_cases h1 : o.f0 = 1
  · rw [if_pos h1]; exact okT_grow h _
  · rw [if_neg h1]
    by_cases h2 : o.f0 = 2
    · rw [if_pos h2]; exact okT_put h _ _ ho
    · rw [if_neg h2]; exact h
theorem grow_ok {l : List S43} (h : okT l) (b : Int) : tree_Tree_Grow.f l b = some (growL l b) := grow_eq (okT_small h) (fun x hx => (okT_len h hx).1) b
theorem put_ok {l : List S43} (h : okT l) (b at_ : Int) (x : S45) (hx : x.f2.size ≤ 200) : Ev (fun k => tree_Tree_Put.f k l b at_ x.f0 x.f1 x.f2 x.f3) (putL l b at_ x) := put_ev (okT_small h) b at_ x (by omega)
end Go.Proofs.YtbngfhlciebeeaaDoor.Sp
end
section
namespace Go.Proofs.YtbngfhlciebeeaaDoor.Opn
set_option linter.unusedVariables false
set_option linter.unusedSimpArgs false
open Go.RowKit Go.ChangeShapes Go.WideShapes Go.Proofs.YtbngfhlciebeeaaDoorW.PrintWords
def I64 (n : Int) : Prop := -9223372036854775808 ≤ n ∧ n ≤ 9223372036854775807
theorem i64_of {n : Int} (h : (Lit.int .i64 n).wf = true) : I64 n := bounds_i64 h
section
variable {H : Type} {enc : TypeId × Value → H} {w : World} {base : Nat} {sp : Nat → Bool} {held : Bool}
theorem opens3 : Opens enc Tryd.prog w base sp held 3 (Kd.int .i64) I64 := opens_imp (fun _ h => i64_of h) (opens_int Tryd.underlying3)
theorem opens2 : Opens enc Tryd.prog w base sp held 2 (Kd.int .i64) I64 := opens_imp (fun _ h => i64_of h) (opens_int Tryd.underlying2)
theorem opens9 : Opens enc Tryd.prog w base sp held 9 Kd.string (fun s => s.size ≤ maxLen) := opens_string Tryd.underlying9
theorem opens45 : Opens enc Tryd.prog w base sp held 45 L.k45 (fun x => I64 x.f0 ∧ I64 x.f1 ∧ x.f2.size ≤ maxLen ∧ I64 x.f3) :=
  opens_iso (fun x => ⟨x.1, x.2.1, x.2.2.1, x.2.2.2⟩) (fun _ => rfl)
    (opens_struct Tryd.underlying45 (tot := 4) (by kernel_rfl) (opensF_cons opens3 rfl (opensF_cons opens3 (by kernel_rfl) (opensF_cons opens9 (by kernel_rfl) (opensF_one opens2 (by kernel_rfl) (by kernel_rfl))))))
theorem opens56 : Opens enc Tryd.prog w base sp held 56 L.k56 (fun x => I64 x.f0 ∧ I64 x.f1 ∧ I64 x.f2 ∧ (I64 x.f3.f0 ∧ I64 x.f3.f1 ∧ x.f3.f2.size ≤ maxLen ∧ I64 x.f3.f3)) :=
  opens_iso (fun x => ⟨x.1, x.2.1, x.2.2.1, x.2.2.2⟩) (fun _ => rfl)
    (opens_struct Tryd.underlying56 (tot := 7) (by kernel_rfl) (opensF_cons opens3 rfl (opensF_cons opens3 (by kernel_rfl) (opensF_cons opens3 (by kernel_rfl) (opensF_one opens45 (by kernel_rfl) (by kernel_rfl))))))
theorem opens52 : Opens enc Tryd.prog w base sp held 52 (Kd.slice 56 L.k56) (fun l => l.length ≤ maxLen ∧ ∀ x ∈ l, I64 x.f0 ∧ I64 x.f1 ∧ I64 x.f2 ∧ (I64 x.f3.f0 ∧ I64 x.f3.f1 ∧ x.f3.f2.size ≤ maxLen ∧ I64 x.f3.f3)) := opens_slice Tryd.underlying52 (by kernel_rfl) opens56
end
end Go.Proofs.YtbngfhlciebeeaaDoor.Opn
end
