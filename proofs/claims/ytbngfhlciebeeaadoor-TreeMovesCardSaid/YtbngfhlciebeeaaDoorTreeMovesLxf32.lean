/- Printed and hand-written steps towards the row (TreeMoves), those that it reaches. -/
import Derived.Test.YtbngfhlciebeeaaDoorTreeMovesG4
import Derived.Test.YtbngfhlciebeeaaDoorTreeMovesG16
import Derived.Test.YtbngfhlciebeeaaDoorTreeMovesG14
import Derived.Test.YtbngfhlciebeeaaDoorTreeMovesG19
import Derived.Test.YtbngfhlciebeeaaDoorTreeMovesG20
import Derived.Test.YtbngfhlciebeeaaDoorTreeMovesLxf41
namespace Go.Proofs.YtbngfhlciebeeaaDoor.L
open Go.RowKit Go.Proofs.YtbngfhlciebeeaaDoorW.PrintWords Go.Proofs.YtbngfhlciebeeaaDoorW.PrintLast Go.Proofs.YtbngfhlciebeeaaDoorW.PrintMore
attribute [local go_sem] max2_int min2_int max_two min_two max_three min_three max_four min_four   -- for this text's walks alone
set_option linter.unusedVariables false
set_option linter.unusedSimpArgs false
attribute [local go_sem high] eqA47
def whirligiglaw22_anchor.l0 : Nat → List (S43) → Int → Option (Bool)
 | 0, _, _ => none
 | k + 1, x1, x6 => if x6 < 3 then ((tree_Tree_Grow.f x1 0).bind fun bt426 => (whirligiglaw22_anchor.l0 k bt426.1 (wrap64 (x6 + 1)))) else ((tree_Tree_Put.f k x1 0 1 0 1 (⟨#[101]⟩ : ByteArray) 0).bind fun bt430 => (if bt430.2.2 = 0 then (if bt430.2.1 = 1 then (if (bt430.1.length : Int) = 2 then (if 1 < (bt430.1.length : Int) then (if ((rd_T43 bt430.1 1).f2) = 2 then (if 0 < (bt430.1.length : Int) then (if ((rd_T43 bt430.1 0).f2) = 3 then ((tree_Tree_Right.f k bt430.1).bind fun t437 => (some t437)) else (some false)) else (none)) else (some false)) else (none)) else (some false)) else (some false)) else (some false)))
def whirligiglaw22_anchor.f (k : Nat)  : Option (Bool) := (tree_New.f).bind fun t423 => (whirligiglaw22_anchor.l0 k t423 0)
set_option maxHeartbeats 8000000 in
set_option maxRecDepth 100000 in
theorem whirligiglaw22_anchor.calls (k : Nat)  (r : Bool) (w : World) (hL : Laid w) (h : whirligiglaw22_anchor.f k  = some r) :
  Calls Tryd.prog 32 #[] w fun e w' => e = .returned (.bool r) ∧ Below w.heap.size w w' := by
 have hu45 := Tryd.underlying45
 have HB := Aside0.mk (Below.refl w.heap.size w)
 have HLD := Aside0.mk hL
 clear hL
 have H : ((tree_New.f).bind fun t423 => (whirligiglaw22_anchor.l0 k t423 0)) = some r := h
 clear h
 replace H := Option.bind_eq_some_iff.mp H
 obtain ⟨t423, A10, H⟩ := H
 (try dsimp -simprocs only at H)
 have A1 := Aside0.mk A10
 clear A10
 have H' := Aside0.mk H
 clear H
 go_enter Tryd.func32, Tryd.ntmps32
 go_wp2_with (first | (refine gl (some 5) #[] Tryd.func39 ?_; (with_reducible refine (tree_New.calls  t423 _ A1.out).mono ?_); rintro e w2 ⟨v424, rfl, ho0, hb⟩; refine ⟨_, rfl, ?_⟩; have HO425 := Aside0.mk (Kd.S_lower ho0 (below_size qB)); replace HB := bst hb; (try clear hb); (try clear ho0)))
 go_loopg [1, 6] k (fun kq v1 v6 w' => ∃ (x1_1 : List (S43)) (x6_1 : Int), v6 = .int .i64 x6_1 ∧ Aside0 (whirligiglaw22_anchor.l0 kq x1_1 x6_1 = some r) ∧ Aside0 (kq ≤ k) ∧ Aside0 (Kd.S k43 43 w' w.heap.size (fun _ => True) v1 x1_1) ∧ Aside0 (Below w.heap.size w w'))
 case atStart => exact ⟨(t423), (0), (by first | rfl | (simp; done) | (simp [*]; done)), H', ⟨Nat.le_refl _⟩, ⟨by (with_reducible repeat (first | apply Kd.S_alloc | apply Kd.S_drewN | apply Kd.S_drew)); exact HO425.out⟩, ⟨qB⟩⟩
 case round =>
  clear H'
  try clear p2
  obtain ⟨x1_1, x6_1, rfl, HA, HK1, HO_1, HB⟩ := hrel
  cases gk with
  | zero => exact absurd HA.out (by simp [whirligiglaw22_anchor.l0])
  | succ k1 =>
   have H := HA.out
   clear HA
   simp only [whirligiglaw22_anchor.l0] at H
   by_cases c3 : x6_1 < 3
   ·rw [if_pos c3] at H
    have c3b0 := decide_eq_true c3
    clear c3
    replace H := Option.bind_eq_some_iff.mp H
    obtain ⟨⟨t426, t427⟩, A40, H⟩ := H
    (try dsimp -simprocs only at H)
    have A4 := Aside0.mk A40
    clear A40
    have H' := Aside0.mk H
    clear H
    obtain ⟨Ao5, co5, eo5⟩ := Kd.S_slice HO_1.out
    subst eo5
    go_wp2_with (first | (refine gl (some 10) #[.slice Ao5 x1_1.length co5, .int .i64 0] Tryd.func40 ?_; (with_reducible refine (tree_Tree_Grow.calls _ _ x1_1 0 t426 t427 _ ?side1 ?side2 A4.out).mono ?_); (case side1 => repeat (first | exact (Kd.S_reads' HO_1.out).2.2 | (with_reducible refine Kd.C_alloc ?_ _) | (with_reducible refine Kd.C_drewN ?_ _) | (with_reducible refine Kd.C_drew ?_))); (case side2 => exact (Kd.S_reads' HO_1.out).2.1); rintro e w6 ⟨v428, rfl, ho0, hb⟩; refine ⟨_, rfl, ?_⟩; have n0_ := Aside0.mk (Kd.S_elder' (by (with_reducible repeat (first | apply Kd.S_alloc | apply Kd.S_drewN | apply Kd.S_drew)); exact HO_1.out) (Kd.S_base ho0) hb); have n1_ := Aside0.mk (Kd.S_lower (Kd.S_new' ho0 (Kd.S_lt (by (with_reducible repeat (first | apply Kd.S_alloc | apply Kd.S_drewN | apply Kd.S_drew)); exact HO_1.out))) (below_size qB)); have n2_ := bst hb; clear HO_1; clear HB; have HO_1 := n0_; have HO429 := n1_; have HB := n2_; clear n0_ n1_ n2_; (try clear hb); (try clear ho0)))
    go_roundg k1
    case measure => have := HK1.out; omega
    case rel => exact ⟨(t426), (wrap64 (x6_1 + 1)), (by first | rfl | (simp; done) | (simp [*]; done)), H', ⟨by have := HK1.out; omega⟩, ⟨by (with_reducible repeat (first | apply Kd.S_alloc | apply Kd.S_drewN | apply Kd.S_drew)); exact Kd.S_mono HO429.out (fun _ hk => trivial)⟩, ⟨qB⟩⟩
   ·rw [if_neg c3] at H
    have c3b0 := decide_eq_false c3
    clear c3
    replace H := Option.bind_eq_some_iff.mp H
    obtain ⟨⟨t430, t433, t434⟩, A70, H⟩ := H
    (try dsimp -simprocs only at H)
    have A7 := Aside0.mk A70
    clear A70
    by_cases c8 : t434 = 0
    ·rw [if_pos c8] at H
     have c8b0 := beq_iff_eq.mpr c8
     have c8b1 := bne_eq_false_iff_eq.mpr c8
     clear c8
     by_cases c9 : t433 = 1
     ·rw [if_pos c9] at H
      have c9b0 := beq_iff_eq.mpr c9
      have c9b1 := bne_eq_false_iff_eq.mpr c9
      clear c9
      by_cases c10 : (t430.length : Int) = 2
      ·rw [if_pos c10] at H
       have c10b0 := beq_iff_eq.mpr c10
       have c10b1 := bne_eq_false_iff_eq.mpr c10
       clear c10
       by_cases c11 : 1 < (t430.length : Int)
       ·rw [if_pos c11] at H
        have c11b0 := decide_eq_true c11
        have c11b1 : decide (1 < t430.length) = true := decide_eq_true (by omega)
        clear c11
        by_cases c12 : ((rd_T43 t430 1).f2) = 2
        ·rw [if_pos c12] at H
         have c12b0 := beq_iff_eq.mpr c12
         have c12b1 := bne_eq_false_iff_eq.mpr c12
         clear c12
         by_cases c13 : 0 < (t430.length : Int)
         ·rw [if_pos c13] at H
          have c13b0 := decide_eq_true c13
          have c13b1 : decide (0 < t430.length) = true := decide_eq_true (by omega)
          clear c13
          by_cases c14 : ((rd_T43 t430 0).f2) = 3
          ·rw [if_pos c14] at H
           have c14b0 := beq_iff_eq.mpr c14
           have c14b1 := bne_eq_false_iff_eq.mpr c14
           clear c14
           replace H := Option.bind_eq_some_iff.mp H
           obtain ⟨t437, A150, H⟩ := H
           (try dsimp -simprocs only at H)
           have A15 := Aside0.mk A150
           clear A150
           obtain rfl := Option.some.inj H
           obtain ⟨Ao16, co16, eo16⟩ := Kd.S_slice HO_1.out
           subst eo16
           go_wp2_with (first | (refine gl (some 17) #[.slice Ao16 x1_1.length co16, .int .i64 0, .int .i64 1, .agg #[.int .i64 0, .int .i64 1, .string (⟨#[101]⟩ : ByteArray), .int .i64 0]] Tryd.func41 ?_; (with_reducible refine (tree_Tree_Put.calls k1 _ _ x1_1 0 1 0 1 (⟨#[101]⟩ : ByteArray) 0 t430 t433 t434 _ ?side1 ?side2 ?side3 A7.out).mono ?_); (case side1 => repeat (first | exact (Kd.S_reads' HO_1.out).2.2 | (with_reducible refine Kd.C_alloc ?_ _) | (with_reducible refine Kd.C_drewN ?_ _) | (with_reducible refine Kd.C_drew ?_))); (case side2 => exact (Kd.S_reads' HO_1.out).2.1); (case side3 => exact Laid.below HLD.out qB); rintro e w17 ⟨v431, rfl, ho0, hb⟩; refine ⟨_, rfl, ?_⟩; have n0_ := Aside0.mk (Kd.S_elder' (by (with_reducible repeat (first | apply Kd.S_alloc | apply Kd.S_drewN | apply Kd.S_drew)); exact HO_1.out) (Kd.S_base ho0) hb); have n1_ := Aside0.mk (Kd.S_lower (Kd.S_new' ho0 (Kd.S_lt (by (with_reducible repeat (first | apply Kd.S_alloc | apply Kd.S_drewN | apply Kd.S_drew)); exact HO_1.out))) (below_size qB)); have n2_ := bst hb; clear HO_1; clear HB; have HO_1 := n0_; have HO432 := n1_; have HB := n2_; clear n0_ n1_ n2_; (try clear hb); (try clear ho0); obtain ⟨Ao18, co18, eo18⟩ := Kd.S_slice HO432.out; subst eo18; have p435 : 0 ≤ (1 : Int) := (by omega); have q435 : 1 < (t430.length : Int) := qD; obtain ⟨ad435, A435_3, c435_3, e435, hx435_0, hx435_1, hx435_2, hx435_3, hl435_3, hi435_3⟩ := at_T43 (Kd.S_reads' HO432.out).2.2 1 p435 q435; cases e435; obtain ⟨ce435, hce435, hMe435, hcc435⟩ := Kd.S_get HO432.out z43 1 p435 (by first | exact q435 | exact qD | (have e_ := (Kd.S_reads' HO432.out).1; omega)); obtain ⟨ve435_3, rfl, ge435_3⟩ := k43_openM hMe435; have hv435_3 := hcc435 3 _ rfl; rw [add_field _ _ 3 (by omega)] at hv435_3; replace hv435_3 := Option.some.inj (hv435_3.symm.trans hx435_3); rw [hv435_3] at ge435_3; have HL435_3 := Aside0.mk (show Kd.R k45 45 _ _ _ _ ((rd_T43 t430 1).f3) from ge435_3); clear hv435_3 ge435_3; clear hcc435 hce435; (try simp only [show (1 : Int).toNat = 1 from rfl, Nat.reduceMul, Nat.reduceEqDiff, Go.Addr.add, ↓reduceIte] at hx435_0); (try simp only [show (1 : Int).toNat = 1 from rfl, Nat.reduceMul, Nat.reduceEqDiff, Go.Addr.add, ↓reduceIte] at hx435_1); (try simp only [show (1 : Int).toNat = 1 from rfl, Nat.reduceMul, Nat.reduceEqDiff, Go.Addr.add, ↓reduceIte] at hx435_2); (try simp only [show (1 : Int).toNat = 1 from rfl, Nat.reduceMul, Nat.reduceEqDiff, Go.Addr.add, ↓reduceIte] at hx435_3); have qi435 : (1 < t430.length) = True := eq_true (by omega); (try rw [show ((1 : Int)).toNat = 1 from rfl] at hx435_0); (try rw [show 1 * 4 = 4 from rfl] at hx435_0); (try rw [show ((1 : Int)).toNat = 1 from rfl] at hx435_1); (try rw [show 1 * 4 = 4 from rfl] at hx435_1); (try rw [show ((1 : Int)).toNat = 1 from rfl] at hx435_2); (try rw [show 1 * 4 = 4 from rfl] at hx435_2); (try rw [show ((1 : Int)).toNat = 1 from rfl] at hx435_3); (try rw [show 1 * 4 = 4 from rfl] at hx435_3); have HR435_3 := Aside0.mk hi435_3; have HC435_3 := Aside0.mk hl435_3; clear hi435_3 hl435_3; replace p435 := eq_true p435; replace q435 := eq_true q435; have p436 : 0 ≤ (0 : Int) := (by omega); have q436 : 0 < (t430.length : Int) := qD; obtain ⟨ad436, A436_3, c436_3, e436, hx436_0, hx436_1, hx436_2, hx436_3, hl436_3, hi436_3⟩ := at_T43 (Kd.S_reads' HO432.out).2.2 0 p436 q436; obtain rfl : ad435 = ad436 := (by injection e436); obtain ⟨ce436, hce436, hMe436, hcc436⟩ := Kd.S_get HO432.out z43 0 p436 (by first | exact q436 | exact qD | (have e_ := (Kd.S_reads' HO432.out).1; omega)); obtain ⟨ve436_3, rfl, ge436_3⟩ := k43_openM hMe436; have hv436_3 := hcc436 3 _ rfl; rw [add_field _ _ 3 (by omega)] at hv436_3; replace hv436_3 := Option.some.inj (hv436_3.symm.trans hx436_3); rw [hv436_3] at ge436_3; have HL436_3 := Aside0.mk (show Kd.R k45 45 _ _ _ _ ((rd_T43 t430 0).f3) from ge436_3); clear hv436_3 ge436_3; clear hcc436 hce436; have qi436 : (0 < t430.length) = True := eq_true (by omega); (try rw [show ((0 : Int)).toNat = 0 from rfl] at hx436_0); (try rw [show 0 * 4 = 0 from rfl] at hx436_0); (try rw [Addr.add_zero'] at hx436_0); (try rw [show ((0 : Int)).toNat = 0 from rfl] at hx436_1); (try rw [show 0 * 4 = 0 from rfl] at hx436_1); (try rw [Addr.add_zero'] at hx436_1); (try rw [show ((0 : Int)).toNat = 0 from rfl] at hx436_2); (try rw [show 0 * 4 = 0 from rfl] at hx436_2); (try rw [Addr.add_zero'] at hx436_2); (try rw [show ((0 : Int)).toNat = 0 from rfl] at hx436_3); (try rw [show 0 * 4 = 0 from rfl] at hx436_3); (try rw [Addr.add_zero'] at hx436_3); have HR436_3 := Aside0.mk hi436_3; have HC436_3 := Aside0.mk hl436_3; clear hi436_3 hl436_3; replace p436 := eq_true p436; replace q436 := eq_true q436) | (go_at_call 35; (with_reducible refine (tree_Tree_Right.calls k1 _ _ t430 t437 _ ?side1 ?side2 ?side3 A15.out).mono ?_); (case side1 => repeat (first | exact (Kd.S_reads' HO432.out).2.2 | (with_reducible refine Kd.C_alloc ?_ _) | (with_reducible refine Kd.C_drewN ?_ _) | (with_reducible refine Kd.C_drew ?_))); (case side2 => exact (Kd.S_reads' HO432.out).2.1); (case side3 => exact Laid.below HLD.out qB); rintro e w19 ⟨rfl, hb⟩; have n0_ := Aside0.mk (Kd.S_below (by (with_reducible repeat (first | apply Kd.S_alloc | apply Kd.S_drewN | apply Kd.S_drew)); exact HO_1.out) hb); have n1_ := Aside0.mk (Kd.S_below (by (with_reducible repeat (first | apply Kd.S_alloc | apply Kd.S_drewN | apply Kd.S_drew)); exact HO432.out) hb); have n2_ := Aside0.mk (Kd.R_below (by (with_reducible repeat (first | apply Kd.R_alloc | apply Kd.R_drewN | apply Kd.R_drew)); exact HL435_3.out) hb); have n3_ := Aside0.mk (Kd.R_below (by (with_reducible repeat (first | apply Kd.R_alloc | apply Kd.R_drewN | apply Kd.R_drew)); exact HL436_3.out) hb); have n4_ := Aside0.mk (Kd.C_below (by repeat (first | (with_reducible exact HR435_3.out) | (with_reducible refine Kd.C_alloc ?_ _) | (with_reducible refine Kd.C_drewN ?_ _) | (with_reducible refine Kd.C_drew ?_) | exact HR435_3.out)) hb); have n5_ := Aside0.mk (Kd.C_below (by repeat (first | (with_reducible exact HR436_3.out) | (with_reducible refine Kd.C_alloc ?_ _) | (with_reducible refine Kd.C_drewN ?_ _) | (with_reducible refine Kd.C_drew ?_) | exact HR436_3.out)) hb); have n6_ := bst hb; clear HO_1; clear HO432; clear HL435_3; clear HL436_3; clear HR435_3; clear HR436_3; clear HB; have HO_1 := n0_; have HO432 := n1_; have HL435_3 := n2_; have HL436_3 := n3_; have HR435_3 := n4_; have HR436_3 := n5_; have HB := n6_; clear n0_ n1_ n2_ n3_ n4_ n5_ n6_; (try clear hb)))
           go_ret
           exact ⟨qR, qB⟩
          ·rw [if_neg c14] at H
           have c14b0 := beq_eq_false_iff_ne.mpr c14
           have c14b1 := bne_iff_ne.mpr c14
           obtain rfl := Option.some.inj H
           obtain ⟨Ao20, co20, eo20⟩ := Kd.S_slice HO_1.out
           subst eo20
           go_wp2_with (first | (refine gl (some 17) #[.slice Ao20 x1_1.length co20, .int .i64 0, .int .i64 1, .agg #[.int .i64 0, .int .i64 1, .string (⟨#[101]⟩ : ByteArray), .int .i64 0]] Tryd.func41 ?_; (with_reducible refine (tree_Tree_Put.calls k1 _ _ x1_1 0 1 0 1 (⟨#[101]⟩ : ByteArray) 0 t430 t433 t434 _ ?side1 ?side2 ?side3 A7.out).mono ?_); (case side1 => repeat (first | exact (Kd.S_reads' HO_1.out).2.2 | (with_reducible refine Kd.C_alloc ?_ _) | (with_reducible refine Kd.C_drewN ?_ _) | (with_reducible refine Kd.C_drew ?_))); (case side2 => exact (Kd.S_reads' HO_1.out).2.1); (case side3 => exact Laid.below HLD.out qB); rintro e w21 ⟨v431, rfl, ho0, hb⟩; refine ⟨_, rfl, ?_⟩; have n0_ := Aside0.mk (Kd.S_elder' (by (with_reducible repeat (first | apply Kd.S_alloc | apply Kd.S_drewN | apply Kd.S_drew)); exact HO_1.out) (Kd.S_base ho0) hb); have n1_ := Aside0.mk (Kd.S_lower (Kd.S_new' ho0 (Kd.S_lt (by (with_reducible repeat (first | apply Kd.S_alloc | apply Kd.S_drewN | apply Kd.S_drew)); exact HO_1.out))) (below_size qB)); have n2_ := bst hb; clear HO_1; clear HB; have HO_1 := n0_; have HO432 := n1_; have HB := n2_; clear n0_ n1_ n2_; (try clear hb); (try clear ho0); obtain ⟨Ao22, co22, eo22⟩ := Kd.S_slice HO432.out; subst eo22; have p435 : 0 ≤ (1 : Int) := (by omega); have q435 : 1 < (t430.length : Int) := qD; obtain ⟨ad435, A435_3, c435_3, e435, hx435_0, hx435_1, hx435_2, hx435_3, hl435_3, hi435_3⟩ := at_T43 (Kd.S_reads' HO432.out).2.2 1 p435 q435; cases e435; obtain ⟨ce435, hce435, hMe435, hcc435⟩ := Kd.S_get HO432.out z43 1 p435 (by first | exact q435 | exact qD | (have e_ := (Kd.S_reads' HO432.out).1; omega)); obtain ⟨ve435_3, rfl, ge435_3⟩ := k43_openM hMe435; have hv435_3 := hcc435 3 _ rfl; rw [add_field _ _ 3 (by omega)] at hv435_3; replace hv435_3 := Option.some.inj (hv435_3.symm.trans hx435_3); rw [hv435_3] at ge435_3; have HL435_3 := Aside0.mk (show Kd.R k45 45 _ _ _ _ ((rd_T43 t430 1).f3) from ge435_3); clear hv435_3 ge435_3; clear hcc435 hce435; (try simp only [show (1 : Int).toNat = 1 from rfl, Nat.reduceMul, Nat.reduceEqDiff, Go.Addr.add, ↓reduceIte] at hx435_0); (try simp only [show (1 : Int).toNat = 1 from rfl, Nat.reduceMul, Nat.reduceEqDiff, Go.Addr.add, ↓reduceIte] at hx435_1); (try simp only [show (1 : Int).toNat = 1 from rfl, Nat.reduceMul, Nat.reduceEqDiff, Go.Addr.add, ↓reduceIte] at hx435_2); (try simp only [show (1 : Int).toNat = 1 from rfl, Nat.reduceMul, Nat.reduceEqDiff, Go.Addr.add, ↓reduceIte] at hx435_3); have qi435 : (1 < t430.length) = True := eq_true (by omega); (try rw [show ((1 : Int)).toNat = 1 from rfl] at hx435_0); (try rw [show 1 * 4 = 4 from rfl] at hx435_0); (try rw [show ((1 : Int)).toNat = 1 from rfl] at hx435_1); (try rw [show 1 * 4 = 4 from rfl] at hx435_1); (try rw [show ((1 : Int)).toNat = 1 from rfl] at hx435_2); (try rw [show 1 * 4 = 4 from rfl] at hx435_2); (try rw [show ((1 : Int)).toNat = 1 from rfl] at hx435_3); (try rw [show 1 * 4 = 4 from rfl] at hx435_3); have HR435_3 := Aside0.mk hi435_3; have HC435_3 := Aside0.mk hl435_3; clear hi435_3 hl435_3; replace p435 := eq_true p435; replace q435 := eq_true q435; have p436 : 0 ≤ (0 : Int) := (by omega); have q436 : 0 < (t430.length : Int) := qD; obtain ⟨ad436, A436_3, c436_3, e436, hx436_0, hx436_1, hx436_2, hx436_3, hl436_3, hi436_3⟩ := at_T43 (Kd.S_reads' HO432.out).2.2 0 p436 q436; obtain rfl : ad435 = ad436 := (by injection e436); obtain ⟨ce436, hce436, hMe436, hcc436⟩ := Kd.S_get HO432.out z43 0 p436 (by first | exact q436 | exact qD | (have e_ := (Kd.S_reads' HO432.out).1; omega)); obtain ⟨ve436_3, rfl, ge436_3⟩ := k43_openM hMe436; have hv436_3 := hcc436 3 _ rfl; rw [add_field _ _ 3 (by omega)] at hv436_3; replace hv436_3 := Option.some.inj (hv436_3.symm.trans hx436_3); rw [hv436_3] at ge436_3; have HL436_3 := Aside0.mk (show Kd.R k45 45 _ _ _ _ ((rd_T43 t430 0).f3) from ge436_3); clear hv436_3 ge436_3; clear hcc436 hce436; have qi436 : (0 < t430.length) = True := eq_true (by omega); (try rw [show ((0 : Int)).toNat = 0 from rfl] at hx436_0); (try rw [show 0 * 4 = 0 from rfl] at hx436_0); (try rw [Addr.add_zero'] at hx436_0); (try rw [show ((0 : Int)).toNat = 0 from rfl] at hx436_1); (try rw [show 0 * 4 = 0 from rfl] at hx436_1); (try rw [Addr.add_zero'] at hx436_1); (try rw [show ((0 : Int)).toNat = 0 from rfl] at hx436_2); (try rw [show 0 * 4 = 0 from rfl] at hx436_2); (try rw [Addr.add_zero'] at hx436_2); (try rw [show ((0 : Int)).toNat = 0 from rfl] at hx436_3); (try rw [show 0 * 4 = 0 from rfl] at hx436_3); (try rw [Addr.add_zero'] at hx436_3); have HR436_3 := Aside0.mk hi436_3; have HC436_3 := Aside0.mk hl436_3; clear hi436_3 hl436_3; replace p436 := eq_true p436; replace q436 := eq_true q436))
           go_ret
           exact ⟨qR, qB⟩
         ·rw [if_neg c13] at H
          exact absurd H (by simp)
        ·rw [if_neg c12] at H
         have c12b0 := beq_eq_false_iff_ne.mpr c12
         have c12b1 := bne_iff_ne.mpr c12
         obtain rfl := Option.some.inj H
         obtain ⟨Ao23, co23, eo23⟩ := Kd.S_slice HO_1.out
         subst eo23
         go_wp2_with (first | (refine gl (some 17) #[.slice Ao23 x1_1.length co23, .int .i64 0, .int .i64 1, .agg #[.int .i64 0, .int .i64 1, .string (⟨#[101]⟩ : ByteArray), .int .i64 0]] Tryd.func41 ?_; (with_reducible refine (tree_Tree_Put.calls k1 _ _ x1_1 0 1 0 1 (⟨#[101]⟩ : ByteArray) 0 t430 t433 t434 _ ?side1 ?side2 ?side3 A7.out).mono ?_); (case side1 => repeat (first | exact (Kd.S_reads' HO_1.out).2.2 | (with_reducible refine Kd.C_alloc ?_ _) | (with_reducible refine Kd.C_drewN ?_ _) | (with_reducible refine Kd.C_drew ?_))); (case side2 => exact (Kd.S_reads' HO_1.out).2.1); (case side3 => exact Laid.below HLD.out qB); rintro e w24 ⟨v431, rfl, ho0, hb⟩; refine ⟨_, rfl, ?_⟩; have n0_ := Aside0.mk (Kd.S_elder' (by (with_reducible repeat (first | apply Kd.S_alloc | apply Kd.S_drewN | apply Kd.S_drew)); exact HO_1.out) (Kd.S_base ho0) hb); have n1_ := Aside0.mk (Kd.S_lower (Kd.S_new' ho0 (Kd.S_lt (by (with_reducible repeat (first | apply Kd.S_alloc | apply Kd.S_drewN | apply Kd.S_drew)); exact HO_1.out))) (below_size qB)); have n2_ := bst hb; clear HO_1; clear HB; have HO_1 := n0_; have HO432 := n1_; have HB := n2_; clear n0_ n1_ n2_; (try clear hb); (try clear ho0); obtain ⟨Ao25, co25, eo25⟩ := Kd.S_slice HO432.out; subst eo25; have p435 : 0 ≤ (1 : Int) := (by omega); have q435 : 1 < (t430.length : Int) := qD; obtain ⟨ad435, A435_3, c435_3, e435, hx435_0, hx435_1, hx435_2, hx435_3, hl435_3, hi435_3⟩ := at_T43 (Kd.S_reads' HO432.out).2.2 1 p435 q435; cases e435; obtain ⟨ce435, hce435, hMe435, hcc435⟩ := Kd.S_get HO432.out z43 1 p435 (by first | exact q435 | exact qD | (have e_ := (Kd.S_reads' HO432.out).1; omega)); obtain ⟨ve435_3, rfl, ge435_3⟩ := k43_openM hMe435; have hv435_3 := hcc435 3 _ rfl; rw [add_field _ _ 3 (by omega)] at hv435_3; replace hv435_3 := Option.some.inj (hv435_3.symm.trans hx435_3); rw [hv435_3] at ge435_3; have HL435_3 := Aside0.mk (show Kd.R k45 45 _ _ _ _ ((rd_T43 t430 1).f3) from ge435_3); clear hv435_3 ge435_3; clear hcc435 hce435; (try simp only [show (1 : Int).toNat = 1 from rfl, Nat.reduceMul, Nat.reduceEqDiff, Go.Addr.add, ↓reduceIte] at hx435_0); (try simp only [show (1 : Int).toNat = 1 from rfl, Nat.reduceMul, Nat.reduceEqDiff, Go.Addr.add, ↓reduceIte] at hx435_1); (try simp only [show (1 : Int).toNat = 1 from rfl, Nat.reduceMul, Nat.reduceEqDiff, Go.Addr.add, ↓reduceIte] at hx435_2); (try simp only [show (1 : Int).toNat = 1 from rfl, Nat.reduceMul, Nat.reduceEqDiff, Go.Addr.add, ↓reduceIte] at hx435_3); have qi435 : (1 < t430.length) = True := eq_true (by omega); (try rw [show ((1 : Int)).toNat = 1 from rfl] at hx435_0); (try rw [show 1 * 4 = 4 from rfl] at hx435_0); (try rw [show ((1 : Int)).toNat = 1 from rfl] at hx435_1); (try rw [show 1 * 4 = 4 from rfl] at hx435_1); (try rw [show ((1 : Int)).toNat = 1 from rfl] at hx435_2); (try rw [show 1 * 4 = 4 from rfl] at hx435_2); (try rw [show ((1 : Int)).toNat = 1 from rfl] at hx435_3); (try rw [show 1 * 4 = 4 from rfl] at hx435_3); have HR435_3 := Aside0.mk hi435_3; have HC435_3 := Aside0.mk hl435_3; clear hi435_3 hl435_3; replace p435 := eq_true p435; replace q435 := eq_true q435))
         go_ret
         exact ⟨qR, qB⟩
       ·rw [if_neg c11] at H
        exact absurd H (by simp)
      ·rw [if_neg c10] at H
       have c10b0 := beq_eq_false_iff_ne.mpr c10
       have c10b1 := bne_iff_ne.mpr c10
       obtain rfl := Option.some.inj H
       obtain ⟨Ao26, co26, eo26⟩ := Kd.S_slice HO_1.out
       subst eo26
       go_wp2_with (first | (refine gl (some 17) #[.slice Ao26 x1_1.length co26, .int .i64 0, .int .i64 1, .agg #[.int .i64 0, .int .i64 1, .string (⟨#[101]⟩ : ByteArray), .int .i64 0]] Tryd.func41 ?_; (with_reducible refine (tree_Tree_Put.calls k1 _ _ x1_1 0 1 0 1 (⟨#[101]⟩ : ByteArray) 0 t430 t433 t434 _ ?side1 ?side2 ?side3 A7.out).mono ?_); (case side1 => repeat (first | exact (Kd.S_reads' HO_1.out).2.2 | (with_reducible refine Kd.C_alloc ?_ _) | (with_reducible refine Kd.C_drewN ?_ _) | (with_reducible refine Kd.C_drew ?_))); (case side2 => exact (Kd.S_reads' HO_1.out).2.1); (case side3 => exact Laid.below HLD.out qB); rintro e w27 ⟨v431, rfl, ho0, hb⟩; refine ⟨_, rfl, ?_⟩; have n0_ := Aside0.mk (Kd.S_elder' (by (with_reducible repeat (first | apply Kd.S_alloc | apply Kd.S_drewN | apply Kd.S_drew)); exact HO_1.out) (Kd.S_base ho0) hb); have n1_ := Aside0.mk (Kd.S_lower (Kd.S_new' ho0 (Kd.S_lt (by (with_reducible repeat (first | apply Kd.S_alloc | apply Kd.S_drewN | apply Kd.S_drew)); exact HO_1.out))) (below_size qB)); have n2_ := bst hb; clear HO_1; clear HB; have HO_1 := n0_; have HO432 := n1_; have HB := n2_; clear n0_ n1_ n2_; (try clear hb); (try clear ho0); obtain ⟨Ao28, co28, eo28⟩ := Kd.S_slice HO432.out; subst eo28))
       go_ret
       exact ⟨qR, qB⟩
     ·rw [if_neg c9] at H
      have c9b0 := beq_eq_false_iff_ne.mpr c9
      have c9b1 := bne_iff_ne.mpr c9
      obtain rfl := Option.some.inj H
      obtain ⟨Ao29, co29, eo29⟩ := Kd.S_slice HO_1.out
      subst eo29
      go_wp2_with (first | (refine gl (some 17) #[.slice Ao29 x1_1.length co29, .int .i64 0, .int .i64 1, .agg #[.int .i64 0, .int .i64 1, .string (⟨#[101]⟩ : ByteArray), .int .i64 0]] Tryd.func41 ?_; (with_reducible refine (tree_Tree_Put.calls k1 _ _ x1_1 0 1 0 1 (⟨#[101]⟩ : ByteArray) 0 t430 t433 t434 _ ?side1 ?side2 ?side3 A7.out).mono ?_); (case side1 => repeat (first | exact (Kd.S_reads' HO_1.out).2.2 | (with_reducible refine Kd.C_alloc ?_ _) | (with_reducible refine Kd.C_drewN ?_ _) | (with_reducible refine Kd.C_drew ?_))); (case side2 => exact (Kd.S_reads' HO_1.out).2.1); (case side3 => exact Laid.below HLD.out qB); rintro e w30 ⟨v431, rfl, ho0, hb⟩; refine ⟨_, rfl, ?_⟩; have n0_ := Aside0.mk (Kd.S_elder' (by (with_reducible repeat (first | apply Kd.S_alloc | apply Kd.S_drewN | apply Kd.S_drew)); exact HO_1.out) (Kd.S_base ho0) hb); have n1_ := Aside0.mk (Kd.S_lower (Kd.S_new' ho0 (Kd.S_lt (by (with_reducible repeat (first | apply Kd.S_alloc | apply Kd.S_drewN | apply Kd.S_drew)); exact HO_1.out))) (below_size qB)); have n2_ := bst hb; clear HO_1; clear HB; have HO_1 := n0_; have HO432 := n1_; have HB := n2_; clear n0_ n1_ n2_; (try clear hb); (try clear ho0)))
      go_ret
      exact ⟨qR, qB⟩
    ·rw [if_neg c8] at H
     have c8b0 := beq_eq_false_iff_ne.mpr c8
     have c8b1 := bne_iff_ne.mpr c8
     obtain rfl := Option.some.inj H
     obtain ⟨Ao31, co31, eo31⟩ := Kd.S_slice HO_1.out
     subst eo31
     go_wp2_with (first | (refine gl (some 17) #[.slice Ao31 x1_1.length co31, .int .i64 0, .int .i64 1, .agg #[.int .i64 0, .int .i64 1, .string (⟨#[101]⟩ : ByteArray), .int .i64 0]] Tryd.func41 ?_; (with_reducible refine (tree_Tree_Put.calls k1 _ _ x1_1 0 1 0 1 (⟨#[101]⟩ : ByteArray) 0 t430 t433 t434 _ ?side1 ?side2 ?side3 A7.out).mono ?_); (case side1 => repeat (first | exact (Kd.S_reads' HO_1.out).2.2 | (with_reducible refine Kd.C_alloc ?_ _) | (with_reducible refine Kd.C_drewN ?_ _) | (with_reducible refine Kd.C_drew ?_))); (case side2 => exact (Kd.S_reads' HO_1.out).2.1); (case side3 => exact Laid.below HLD.out qB); rintro e w32 ⟨v431, rfl, ho0, hb⟩; refine ⟨_, rfl, ?_⟩; have n0_ := Aside0.mk (Kd.S_elder' (by (with_reducible repeat (first | apply Kd.S_alloc | apply Kd.S_drewN | apply Kd.S_drew)); exact HO_1.out) (Kd.S_base ho0) hb); have n1_ := Aside0.mk (Kd.S_lower (Kd.S_new' ho0 (Kd.S_lt (by (with_reducible repeat (first | apply Kd.S_alloc | apply Kd.S_drewN | apply Kd.S_drew)); exact HO_1.out))) (below_size qB)); have n2_ := bst hb; clear HO_1; clear HB; have HO_1 := n0_; have HO432 := n1_; have HB := n2_; clear n0_ n1_ n2_; (try clear hb); (try clear ho0)))
     go_ret
     exact ⟨qR, qB⟩
def whirligigref06_Event.f (k : Nat) (a0 : ByteArray) : Option (Bool) := (whirligigref02_Event.f k a0).bind fun t438 => (if t438 = true then ((whirligigref02_Means.f k a0).bind fun t439 => (some (!t439))) else (some false))
set_option maxHeartbeats 8000000 in
set_option maxRecDepth 100000 in
theorem whirligigref06_Event.calls (k : Nat) (a0 : ByteArray) (r : Bool) (w : World) (h : whirligigref06_Event.f k a0 = some r) :
  Calls Tryd.prog 76 #[.string a0] w fun e w' => e = .returned (.bool r) ∧ Below w.heap.size w w' := by
 have HB := Aside0.mk (Below.refl w.heap.size w)
 have H : ((whirligigref02_Event.f k a0).bind fun t438 => (if t438 = true then ((whirligigref02_Means.f k a0).bind fun t439 => (some (!t439))) else (some false))) = some r := h
 clear h
 replace H := Option.bind_eq_some_iff.mp H
 obtain ⟨t438, A20, H⟩ := H
 (try dsimp -simprocs only at H)
 have A2 := Aside0.mk A20
 clear A20
 by_cases c3 : t438 = true
 ·subst c3
  rw [if_pos rfl] at H
  replace H := Option.bind_eq_some_iff.mp H
  obtain ⟨t439, A40, H⟩ := H
  (try dsimp -simprocs only at H)
  have A4 := Aside0.mk A40
  clear A40
  obtain rfl := Option.some.inj H
  go_enter Tryd.func76, Tryd.ntmps76
  go_wp2_with (first | (refine gl (some 4) #[.string a0] Tryd.func25 ?_; (with_reducible refine (whirligigref02_Event.calls k a0 true _ A2.out).mono ?_); rintro e w5 ⟨rfl, hb⟩; refine ⟨_, rfl, ?_⟩; replace HB := bst hb; (try clear hb)) | (go_at_call 29; (with_reducible refine (whirligigref02_Means.calls k a0 t439 _ A4.out).mono ?_); rintro e w' ⟨rfl, ⟨nd, rfl⟩⟩))
  go_ret
  exact ⟨qR, qB⟩
 ·replace c3 := Bool.eq_false_iff.mpr c3
  subst c3
  rw [if_neg (show ¬ (false = true) by decide)] at H
  obtain rfl := Option.some.inj H
  go_enter Tryd.func76, Tryd.ntmps76
  go_wp2_with (first | (refine gl (some 4) #[.string a0] Tryd.func25 ?_; (with_reducible refine (whirligigref02_Event.calls k a0 false _ A2.out).mono ?_); rintro e w6 ⟨rfl, hb⟩; refine ⟨_, rfl, ?_⟩; replace HB := bst hb; (try clear hb)))
  go_ret
  exact ⟨qR, qB⟩
def whirligigref22_RightInput.f (k : Nat) (a0_0 : Int) (a0_1 : Int) (a0_2 : ByteArray) (a0_3 : Int) : Option (Bool) := if a0_1 = 1 then (if a0_3 = 0 then ((whirligigref06_Event.f k a0_2).bind fun t441 => (some t441)) else (some false)) else (if a0_1 = 2 then (if a0_2.toList = ([] : List UInt8) then (if a0_3 ≥ 1 then (some (decide (a0_3 ≤ 1048576))) else (some false)) else (some false)) else (some false))
set_option maxHeartbeats 8000000 in
set_option maxRecDepth 100000 in
theorem whirligigref22_RightInput.calls (k : Nat) (a0_0 : Int) (a0_1 : Int) (a0_2 : ByteArray) (a0_3 : Int) (r : Bool) (w : World) (h : whirligigref22_RightInput.f k a0_0 a0_1 a0_2 a0_3 = some r) :
  Calls Tryd.prog 34 #[.agg #[.int .i64 a0_0, .int .i64 a0_1, .string a0_2, .int .i64 a0_3]] w fun e w' => e = .returned (.bool r) ∧ Below w.heap.size w w' := by
 have hu47 := Tryd.underlying47
 have HB := Aside0.mk (Below.refl w.heap.size w)
 have H : (if a0_1 = 1 then (if a0_3 = 0 then ((whirligigref06_Event.f k a0_2).bind fun t441 => (some t441)) else (some false)) else (if a0_1 = 2 then (if a0_2.toList = ([] : List UInt8) then (if a0_3 ≥ 1 then (some (decide (a0_3 ≤ 1048576))) else (some false)) else (some false)) else (some false))) = some r := h
 clear h
 by_cases c2 : a0_1 = 1
 ·rw [if_pos c2] at H
  have c2b0 := beq_iff_eq.mpr c2
  have c2b1 := bne_eq_false_iff_eq.mpr c2
  clear c2
  by_cases c3 : a0_3 = 0
  ·rw [if_pos c3] at H
   have c3b0 := beq_iff_eq.mpr c3
   have c3b1 := bne_eq_false_iff_eq.mpr c3
   clear c3
   replace H := Option.bind_eq_some_iff.mp H
   obtain ⟨t441, A40, H⟩ := H
   (try dsimp -simprocs only at H)
   have A4 := Aside0.mk A40
   clear A40
   obtain rfl := Option.some.inj H
   go_enter Tryd.func34, Tryd.ntmps34
   go_wp2_with (first | (refine bx 1 #[.int .i64 a0_0, .int .i64 a0_1, .string a0_2, .int .i64 a0_3] 47 ?_; intro gb440 hg w5 hbox hb; have BK440 := Aside0.mk (hbox); have GW440 := geS hg; have GE440 := geS hg; replace HB := bst hb; clear hb hbox hg; obtain ⟨hcz6_0, hcz6_1, hcz6_2, hcz6_3, hfz6_0, hfz6_1, hfz6_2, hfz6_3⟩ := cells4 BK440.out) | (go_at_call 76; (with_reducible refine (whirligigref06_Event.calls k a0_2 t441 _ A4.out).mono ?_); rintro e w7 ⟨rfl, hb⟩; replace BK440 := kb gb440 hb; replace HB := bst hb; (try clear hb)))
   go_ret
   exact ⟨qR, qB⟩
  ·rw [if_neg c3] at H
   have c3b0 := beq_eq_false_iff_ne.mpr c3
   have c3b1 := bne_iff_ne.mpr c3
   obtain rfl := Option.some.inj H
   go_enter Tryd.func34, Tryd.ntmps34
   go_wp2_with (first | (refine bx 1 #[.int .i64 a0_0, .int .i64 a0_1, .string a0_2, .int .i64 a0_3] 47 ?_; intro gb440 hg w8 hbox hb; have BK440 := Aside0.mk (hbox); have GW440 := geS hg; have GE440 := geS hg; replace HB := bst hb; clear hb hbox hg; obtain ⟨hcz9_0, hcz9_1, hcz9_2, hcz9_3, hfz9_0, hfz9_1, hfz9_2, hfz9_3⟩ := cells4 BK440.out))
   go_ret
   exact ⟨qR, qB⟩
 ·rw [if_neg c2] at H
  have c2b0 := beq_eq_false_iff_ne.mpr c2
  have c2b1 := bne_iff_ne.mpr c2
  by_cases c10 : a0_1 = 2
  ·rw [if_pos c10] at H
   have c10b0 := beq_iff_eq.mpr c10
   have c10b1 := bne_eq_false_iff_eq.mpr c10
   clear c10
   by_cases c11 : a0_2.toList = ([] : List UInt8)
   ·rw [if_pos c11] at H
    have c11b0 := beq_iff_eq.mpr c11
    have c11b1 := bne_eq_false_iff_eq.mpr c11
    clear c11
    by_cases c12 : a0_3 ≥ 1
    ·rw [if_pos c12] at H
     have c12b0 := decide_eq_true c12
     clear c12
     obtain rfl := Option.some.inj H
     go_enter Tryd.func34, Tryd.ntmps34
     go_wp2_with (first | (refine bx 1 #[.int .i64 a0_0, .int .i64 a0_1, .string a0_2, .int .i64 a0_3] 47 ?_; intro gb440 hg w13 hbox hb; have BK440 := Aside0.mk (hbox); have GW440 := geS hg; have GE440 := geS hg; replace HB := bst hb; clear hb hbox hg; obtain ⟨hcz14_0, hcz14_1, hcz14_2, hcz14_3, hfz14_0, hfz14_1, hfz14_2, hfz14_3⟩ := cells4 BK440.out))
     go_ret
     exact ⟨qR, qB⟩
    ·rw [if_neg c12] at H
     have c12b0 := decide_eq_false c12
     clear c12
     obtain rfl := Option.some.inj H
     go_enter Tryd.func34, Tryd.ntmps34
     go_wp2_with (first | (refine bx 1 #[.int .i64 a0_0, .int .i64 a0_1, .string a0_2, .int .i64 a0_3] 47 ?_; intro gb440 hg w15 hbox hb; have BK440 := Aside0.mk (hbox); have GW440 := geS hg; have GE440 := geS hg; replace HB := bst hb; clear hb hbox hg; obtain ⟨hcz16_0, hcz16_1, hcz16_2, hcz16_3, hfz16_0, hfz16_1, hfz16_2, hfz16_3⟩ := cells4 BK440.out))
     go_ret
     exact ⟨qR, qB⟩
   ·rw [if_neg c11] at H
    have c11b0 := beq_eq_false_iff_ne.mpr c11
    have c11b1 := bne_iff_ne.mpr c11
    obtain rfl := Option.some.inj H
    go_enter Tryd.func34, Tryd.ntmps34
    go_wp2_with (first | (refine bx 1 #[.int .i64 a0_0, .int .i64 a0_1, .string a0_2, .int .i64 a0_3] 47 ?_; intro gb440 hg w17 hbox hb; have BK440 := Aside0.mk (hbox); have GW440 := geS hg; have GE440 := geS hg; replace HB := bst hb; clear hb hbox hg; obtain ⟨hcz18_0, hcz18_1, hcz18_2, hcz18_3, hfz18_0, hfz18_1, hfz18_2, hfz18_3⟩ := cells4 BK440.out))
    go_ret
    exact ⟨qR, qB⟩
  ·rw [if_neg c10] at H
   have c10b0 := beq_eq_false_iff_ne.mpr c10
   have c10b1 := bne_iff_ne.mpr c10
   obtain rfl := Option.some.inj H
   go_enter Tryd.func34, Tryd.ntmps34
   go_wp2_with (first | (refine bx 1 #[.int .i64 a0_0, .int .i64 a0_1, .string a0_2, .int .i64 a0_3] 47 ?_; intro gb440 hg w19 hbox hb; have BK440 := Aside0.mk (hbox); have GW440 := geS hg; have GE440 := geS hg; replace HB := bst hb; clear hb hbox hg; obtain ⟨hcz20_0, hcz20_1, hcz20_2, hcz20_3, hfz20_0, hfz20_1, hfz20_2, hfz20_3⟩ := cells4 BK440.out))
   go_ret
   exact ⟨qR, qB⟩
def whirligigref22_Moves.l0 : Nat → List (S47) → Int → Int → Int → Int → List (S47) → Option ((List (S47)))
 | 0, _, _, _, _, _, _ => none
 | k + 1, x3, x4, x443000, x443001, x443002, x443003 => if x4 < (x443003.length : Int) then (if 0 ≤ x4 then (if 0 ≤ ((rd_T47 x443003 x4).f0) then (if ((rd_T47 x443003 x4).f0) < (x3.length : Int) then (whirligigref22_Moves.l0 k (x3.set (((rd_T47 x443003 x4).f0) : Int).toNat (⟨(rd_T47 x443003 x4).f0, (rd_T47 x443003 x4).f1, (rd_T47 x443003 x4).f2, (rd_T47 x443003 x4).f3⟩ : S47)) (wrap64 (x4 + 1)) x443000 x443001 x443002 x443003) else (none)) else (none)) else (none)) else (some x3)
def whirligigref22_Moves.f (k : Nat) (a0_0 : Int) (a0_1 : Int) (a0_2 : Int) (l0_3 : List (S47)) : Option ((List (S47))) := if 0 ≤ a0_2 then (if (a0_2 : Int).toNat ≤ 7036874417766 then (whirligigref22_Moves.l0 k (List.replicate (a0_2 : Int).toNat z47) 0 a0_0 a0_1 a0_2 l0_3) else (none)) else (none)
def whirligigref22_Moves.T5 : Bool × List (List Nat × List Nat) := (true, [([], []), ([], []), ([1], [1]), ([], []), ([2, 3], [2, 3]), ([4], [4]), ([5], [5]), ([], []), ([7], [7]), ([], []), ([8, 9], [8, 9]), ([10], [10]), ([0, 6, 0, 1, 2, 3, 4, 5, 6, 7, 8, 9, 10, 11], [0, 6]), ([12, 11, 0, 1, 2, 3, 4, 5, 6, 7, 8, 9, 10, 11], [11, 12])])
def whirligigref22_Moves.B5 : List Nat := [0, 0, 2, 0, 14, 30, 62, 0, 128, 0, 896, 1920, 4095, 8191]
theorem whirligigref22_Moves.tab5 : rtab .any (opsOf Tryd.f43 5) = whirligigref22_Moves.T5 := by kernel_rfl
theorem whirligigref22_Moves.bits5 : waitsOk whirligigref22_Moves.T5.2 whirligigref22_Moves.B5 = true := by kernel_rfl
set_option maxHeartbeats 8000000 in
set_option maxRecDepth 100000 in
theorem whirligigref22_Moves.calls (k : Nat) (a0_0 : Int) (a0_1 : Int) (a0_2 : Int) (A0_3 : Option Addr) (c0_3 : Nat) (l0_3 : List (S47)) (r : List (S47)) (w : World) (hr0_3 : Kd.C k47 w A0_3 l0_3.length l0_3) (hc0_3 : l0_3.length ≤ c0_3) (h : whirligigref22_Moves.f k a0_0 a0_1 a0_2 l0_3 = some r) :
  Calls Tryd.prog 43 #[.agg #[.int .i64 a0_0, .int .i64 a0_1, .int .i64 a0_2, .slice A0_3 l0_3.length c0_3]] w fun e w' => ∃ v0_ : Value, e = .returned (v0_) ∧ Kd.R k47 47 w' w.heap.size (fun _ => True) v0_ r ∧ Below w.heap.size w w' := by
 have hu65 := Tryd.underlying65
 have hu47 := Tryd.underlying47
 have HR0_3 := Aside0.mk hr0_3
 have HC0_3 := Aside0.mk hc0_3
 clear hr0_3 hc0_3
 have HB := Aside0.mk (Below.refl w.heap.size w)
 have H : (if 0 ≤ a0_2 then (if (a0_2 : Int).toNat ≤ 7036874417766 then (whirligigref22_Moves.l0 k (List.replicate (a0_2 : Int).toNat z47) 0 a0_0 a0_1 a0_2 l0_3) else (none)) else (none)) = some r := h
 clear h
 by_cases c2 : 0 ≤ a0_2
 ·rw [if_pos c2] at H
  have c2b0 := eq_true c2
  have c2b1 := decide_eq_true c2
  clear c2
  by_cases c3 : (a0_2 : Int).toNat ≤ 7036874417766
  ·rw [if_pos c3] at H
   have c3b0 := eq_true c3
   have c3b1 := decide_eq_true c3
   clear c3
   obtain ⟨y443, hy443⟩ : ∃ y_ : List (S47), y_ = (List.replicate (a0_2 : Int).toNat z47) := ⟨_, rfl⟩
   replace H : (whirligigref22_Moves.l0 k y443 0 a0_0 a0_1 a0_2 l0_3) = some r := by first | (rw [hy443]; with_reducible exact H) | (have H2_ := (Option.bind_some _ _).symm.trans H; rw [hy443]; with_reducible exact H2_) | (have H2_ := (Option.bind_some _ _).symm.trans H; with_reducible exact H2_) | with_reducible exact H | (rw [hy443]; exact H) | exact H
   have Ny443 := Aside0.mk hy443
   clear hy443
   have H' := Aside0.mk H
   clear H
   go_enter Tryd.func43, Tryd.ntmps43
   go_wp2_with (first | (refine bx 1 #[.int .i64 a0_0, .int .i64 a0_1, .int .i64 a0_2, .slice A0_3 l0_3.length c0_3] 65 ?_; intro gb442 hg w4 hbox hb; have BK442 := Aside0.mk (hbox); have GW442 := geS hg; have GE442 := geS hg; replace HB := bst hb; clear hb hbox hg; obtain ⟨hcz5_0, hcz5_1, hcz5_2, hcz5_3, hfz5_0, hfz5_1, hfz5_2, hfz5_3⟩ := cells4 BK442.out) | ((with_reducible refine gate_dst (N := 7) rfl ?_); refine Kd.R_make k47 _ 47 rfl (N := 7) rfl 63 _ _ rfl a0_2 rfl rfl Tryd.underlying63 (.agg #[(.int .i64 0), (.int .i64 0), (.string ⟨#[]⟩), (.int .i64 0)]) 40 info47 rfl (by decide) (by omega) z47 (ok := fun _ => True) (okp := fun _ => True) (k47_mkM _ _ _ z47 ) (fun _ hk => hk) trivial (qD) (Nat.le_trans (Nat.mul_le_mul_right _ (qD : a0_2.toNat ≤ 7036874417766)) (by omega)) (Below.refl _ _) (Nat.le_refl _) ?_; intro v444 w6 ho7 hb hg_ hnew_; clear hg_ hnew_; (first | rw [← Ny443.out] at ho7 | (simp only [Int.reduceToNat] at ho7; rw [← Ny443.out] at ho7)); have HO445 := Aside0.mk (Kd.R_lower ho7 (below_size qB)); replace BK442 := kb gb442 hb; replace HB := bst hb; clear hb ho7))
   go_loopg [4] k (fun kq v4 w' => ∃ (x3_1 : List (S47)) (x4_1 : Int), v4 = .int .i64 x4_1 ∧ Aside0 (whirligigref22_Moves.l0 kq x3_1 x4_1 a0_0 a0_1 a0_2 l0_3 = some r) ∧ Aside0 (kq ≤ k) ∧ Aside0 (Kd.R k47 47 w' w.heap.size (fun _ => True) v444 x3_1) ∧ Aside0 (w'.heap[gb442]? = some (.cells #[.int .i64 a0_0, .int .i64 a0_1, .int .i64 a0_2, (.slice A0_3 l0_3.length c0_3)] 65 (0, 0))) ∧ Aside0 (Below w.heap.size w w'))
   case atStart => exact ⟨(y443), (0), (by first | rfl | (simp; done) | (simp [*]; done)), H', ⟨Nat.le_refl _⟩, ⟨by (with_reducible repeat (first | apply Kd.R_alloc | apply Kd.R_drewN | apply Kd.R_drew)); exact HO445.out⟩, ⟨qK⟩, ⟨qB⟩⟩
   case round =>
    clear H'
    try clear c2
    try clear c2b0
    try clear c2b1
    try clear p2
    try clear c3
    try clear c3b0
    try clear c3b1
    try clear c4
    try clear hcz5_0 hcz5_1 hcz5_2 hcz5_3 hfz5_0 hfz5_1 hfz5_2 hfz5_3
    obtain ⟨x3_1, x4_1, rfl, HA, HK1, HO_3, BK442, HB⟩ := hrel
    cases gk with
    | zero => exact absurd HA.out (by simp [whirligigref22_Moves.l0])
    | succ k1 =>
     have H := HA.out
     clear HA
     simp only [whirligigref22_Moves.l0] at H
     by_cases c8 : x4_1 < (l0_3.length : Int)
     ·rw [if_pos c8] at H
      have c8b0 := decide_eq_true c8
      clear c8
      by_cases c9 : 0 ≤ x4_1
      ·rw [if_pos c9] at H
       have c9b0 := decide_eq_true c9
       clear c9
       by_cases c10 : 0 ≤ ((rd_T47 l0_3 x4_1).f0)
       ·rw [if_pos c10] at H
        have c10b0 := decide_eq_true c10
        clear c10
        by_cases c11 : ((rd_T47 l0_3 x4_1).f0) < (x3_1.length : Int)
        ·rw [if_pos c11] at H
         have c11b0 := decide_eq_true c11
         clear c11
         obtain ⟨y448, hy448⟩ : ∃ y_ : List (S47), y_ = (x3_1.set (((rd_T47 l0_3 x4_1).f0) : Int).toNat (⟨(rd_T47 l0_3 x4_1).f0, (rd_T47 l0_3 x4_1).f1, (rd_T47 l0_3 x4_1).f2, (rd_T47 l0_3 x4_1).f3⟩ : S47)) := ⟨_, rfl⟩
         replace H : (whirligigref22_Moves.l0 k1 y448 (wrap64 (x4_1 + 1)) a0_0 a0_1 a0_2 l0_3) = some r := by first | (rw [hy448]; with_reducible exact H) | (have H2_ := (Option.bind_some _ _).symm.trans H; rw [hy448]; with_reducible exact H2_) | (have H2_ := (Option.bind_some _ _).symm.trans H; with_reducible exact H2_) | with_reducible exact H | (rw [hy448]; exact H) | exact H
         have Ny448 := Aside0.mk hy448
         clear hy448
         have H' := Aside0.mk H
         clear H
         obtain ⟨hcz13_0, hcz13_1, hcz13_2, hcz13_3, hfz13_0, hfz13_1, hfz13_2, hfz13_3⟩ := cells4 BK442.out
         try go_wp2
         replace BK442 := Aside0.mk (blk_drew BK442.out)
         replace HO_3 := Aside0.mk (Kd.R_drew HO_3.out)
         replace HB := Aside0.mk (below_drew1 HB.out)
         have p446 : 0 ≤ (x4_1 : Int) := qD
         have q446 : x4_1 < (l0_3.length : Int) := qD
         obtain ⟨ad446, e446, hx446_0, hx446_1, hx446_2, hx446_3⟩ := at_T47 HR0_3.out x4_1 p446 q446
         have hw446_3 := hx446_3
         have hw446_2 := hx446_2
         have hw446_1 := hx446_1
         have hw446_0 := hx446_0
         cases e446
         replace hx446_0 := pw_cell_below HB.out hx446_0
         replace hx446_1 := pw_cell_below HB.out hx446_1
         replace hx446_2 := pw_cell_below HB.out hx446_2
         replace hx446_3 := pw_cell_below HB.out hx446_3
         replace p446 := eq_true p446
         replace q446 := eq_true q446
         have p447 : 0 ≤ (x4_1 : Int) := qD
         have q447 : x4_1 < (l0_3.length : Int) := qD
         obtain ⟨ad447, e447, hx447_0, hx447_1, hx447_2, hx447_3⟩ := at_T47 HR0_3.out x4_1 p447 q447
         have hw447_3 := hx447_3
         have hw447_2 := hx447_2
         have hw447_1 := hx447_1
         have hw447_0 := hx447_0
         obtain rfl : ad446 = ad447 := (by injection e447)
         replace hx447_0 := pw_cell_below HB.out hx447_0
         replace hx447_1 := pw_cell_below HB.out hx447_1
         replace hx447_2 := pw_cell_below HB.out hx447_2
         replace hx447_3 := pw_cell_below HB.out hx447_3
         replace p447 := eq_true p447
         replace q447 := eq_true q447
         have p12 : 0 ≤ (((rd_T47 l0_3 x4_1).f0) : Int) := qD
         have q12 : (((rd_T47 l0_3 x4_1).f0) : Int) < ((x3_1.length : Int) : Int) := qD
         obtain ⟨go12, co12, eo12, gb12, gl12, cl12, HG12⟩ := Kd.R_form HO_3.out (by omega)
         (first | cases eo12 | (injection eo12 with ea_ en_ ec_; (first | subst ea_ | (injection ea_ with ea_; subst ea_)); subst ec_; clear en_))
         have GB12 := Aside0.mk gb12
         have GG12 := Aside0.mk HG12
         clear gb12 gl12 HG12
         obtain ⟨ce12, hcl12, hM12, hcc12, hfr12⟩ := Kd.R_elem HO_3.out z47 (((rd_T47 l0_3 x4_1).f0) : Int) p12 q12
         obtain rfl := k47_openM hM12
         have hx12_0 : World.cell? _ ⟨go12, (((rd_T47 l0_3 x4_1).f0) : Int).toNat * 4, none⟩ = some (.int .i64 ((rd_T47 x3_1 ((rd_T47 l0_3 x4_1).f0)).f0)) := hcc12 0 _ rfl
         have hx12_1 : World.cell? _ ⟨go12, (((rd_T47 l0_3 x4_1).f0) : Int).toNat * 4 + 1, none⟩ = some (.int .i64 ((rd_T47 x3_1 ((rd_T47 l0_3 x4_1).f0)).f1)) := hcc12 1 _ rfl
         have hx12_2 : World.cell? _ ⟨go12, (((rd_T47 l0_3 x4_1).f0) : Int).toNat * 4 + 2, none⟩ = some (.string ((rd_T47 x3_1 ((rd_T47 l0_3 x4_1).f0)).f2)) := hcc12 2 _ rfl
         have hx12_3 : World.cell? _ ⟨go12, (((rd_T47 l0_3 x4_1).f0) : Int).toNat * 4 + 3, none⟩ = some (.int .i64 ((rd_T47 x3_1 ((rd_T47 l0_3 x4_1).f0)).f3)) := hcc12 3 _ rfl
         have hf12_0 : World.frozen? _ ⟨go12, (((rd_T47 l0_3 x4_1).f0) : Int).toNat * 4, none⟩ = false := hfr12 0
         have hf12_1 : World.frozen? _ ⟨go12, (((rd_T47 l0_3 x4_1).f0) : Int).toNat * 4 + 1, none⟩ = false := hfr12 1
         have hf12_2 : World.frozen? _ ⟨go12, (((rd_T47 l0_3 x4_1).f0) : Int).toNat * 4 + 2, none⟩ = false := hfr12 2
         have hf12_3 : World.frozen? _ ⟨go12, (((rd_T47 l0_3 x4_1).f0) : Int).toNat * 4 + 3, none⟩ = false := hfr12 3
         clear hcl12 hcc12 hfr12 hM12
         replace p12 := eq_true p12
         replace q12 := eq_true q12
         obtain ⟨ce15, hcl15, hM15, hcc15, hfr15⟩ := Kd.R_elem HO_3.out z47 (((rd_T47 l0_3 x4_1).f0) : Int) (qD) (by have h_ : (((rd_T47 l0_3 x4_1).f0) : Int) < ((x3_1.length : Int) : Int) := qD; first | exact h_ | (have e_ := (Kd.R_reads' HO_3.out).1; omega) | simpa using h_)
         obtain rfl := k47_openM hM15
         have HP15 := (Kd.R_seg HO_3.out (((rd_T47 l0_3 x4_1).f0) : Int) (qD) (by have h_ : (((rd_T47 l0_3 x4_1).f0) : Int) < ((x3_1.length : Int) : Int) := qD; first | exact h_ | (have e_ := (Kd.R_reads' HO_3.out).1; omega) | simpa using h_) (seg := [.int .i64 ((rd_T47 l0_3 x4_1).f0), .int .i64 ((rd_T47 l0_3 x4_1).f1), .string ((rd_T47 l0_3 x4_1).f2), .int .i64 ((rd_T47 l0_3 x4_1).f3)]) (j := 0) hcl15 hcc15 (show 4 ≤ 4 from by decide) (x' := (⟨(rd_T47 l0_3 x4_1).f0, (rd_T47 l0_3 x4_1).f1, (rd_T47 l0_3 x4_1).f2, (rd_T47 l0_3 x4_1).f3⟩ : S47)) (k47_mkM _ _ _ (⟨(rd_T47 l0_3 x4_1).f0, (rd_T47 l0_3 x4_1).f1, (rd_T47 l0_3 x4_1).f2, (rd_T47 l0_3 x4_1).f3⟩ : S47) ) (fun _ hk => hk)).1
         rw [← Ny448.out] at HP15
         have HQ15 := Aside0.mk HP15
         clear hcl15 hcc15 hfr15 hM15 HP15
         refine start_ (n := 14) (S := fun w' => w'.cell? ⟨gb442, 0, none⟩ = some (.int .i64 a0_0) ∧ w'.cell? ⟨gb442, 1, none⟩ = some (.int .i64 a0_1) ∧ w'.cell? ⟨gb442, 2, none⟩ = some (.int .i64 a0_2) ∧ w'.cell? ⟨gb442, 3, none⟩ = some (.slice (some ad446) l0_3.length c0_3) ∧ w'.cell? (ad446.add ((x4_1).toNat * 4)) = some (.int .i64 ((rd_T47 l0_3 x4_1).f0)) ∧ w'.cell? ⟨(ad446.add ((x4_1).toNat * 4)).block, (ad446.add ((x4_1).toNat * 4)).off + 1, none⟩ = some (.int .i64 ((rd_T47 l0_3 x4_1).f1)) ∧ w'.cell? ⟨(ad446.add ((x4_1).toNat * 4)).block, (ad446.add ((x4_1).toNat * 4)).off + 2, none⟩ = some (.string ((rd_T47 l0_3 x4_1).f2)) ∧ w'.cell? ⟨(ad446.add ((x4_1).toNat * 4)).block, (ad446.add ((x4_1).toNat * 4)).off + 3, none⟩ = some (.int .i64 ((rd_T47 l0_3 x4_1).f3)) ∧ w'.cell? (ad446.add ((x4_1).toNat * 4)) = some (.int .i64 ((rd_T47 l0_3 x4_1).f0)) ∧ w'.cell? ⟨(ad446.add ((x4_1).toNat * 4)).block, (ad446.add ((x4_1).toNat * 4)).off + 1, none⟩ = some (.int .i64 ((rd_T47 l0_3 x4_1).f1)) ∧ w'.cell? ⟨(ad446.add ((x4_1).toNat * 4)).block, (ad446.add ((x4_1).toNat * 4)).off + 2, none⟩ = some (.string ((rd_T47 l0_3 x4_1).f2)) ∧ w'.cell? ⟨(ad446.add ((x4_1).toNat * 4)).block, (ad446.add ((x4_1).toNat * 4)).off + 3, none⟩ = some (.int .i64 ((rd_T47 l0_3 x4_1).f3))) (ds := [13]) #[false, false, false, false, false, false, false, false, false, false, false, false, false, false] (by kernel_rfl) rfl rfl ⟨(blk_cell BK442.out 0).trans rfl, (blk_cell BK442.out 1).trans rfl, (blk_cell BK442.out 2).trans rfl, (blk_cell BK442.out 3).trans rfl, ((HB.out.cell (World.block_lt_of_cell? w _ hw446_0)).trans hw446_0), ((HB.out.cell (World.block_lt_of_cell? w _ hw446_1)).trans hw446_1), ((HB.out.cell (World.block_lt_of_cell? w _ hw446_2)).trans hw446_2), ((HB.out.cell (World.block_lt_of_cell? w _ hw446_3)).trans hw446_3), ((HB.out.cell (World.block_lt_of_cell? w _ hw447_0)).trans hw447_0), ((HB.out.cell (World.block_lt_of_cell? w _ hw447_1)).trans hw447_1), ((HB.out.cell (World.block_lt_of_cell? w _ hw447_2)).trans hw447_2), ((HB.out.cell (World.block_lt_of_cell? w _ hw447_3)).trans hw447_3)⟩ (fun hHeld => ?_); refine with_tabW whirligigref22_Moves.tab5 whirligigref22_Moves.bits5 (fun HT_ HW_ => ?_)
         generalize wr.drew = w14 at HO_3 BK442 HB GG12 HQ15 hf12_0 hf12_1 hf12_2 hf12_3 hx12_0 hx12_1 hx12_2 hx12_3 hx446_0 hx446_1 hx446_2 hx446_3 hx447_0 hx447_1 hx447_2 hx447_3 hHeld ⊢
         refine pu 0 15 ?_; refine pu 1 16 ?_
         refine pu 3 18 ?_; refine pu 7 22 ?_
         refine pu 9 24 ?_; refine tk 2 17 ?_
         refine pu 4 19 ?_; refine pu 5 20 ?_
         refine tk 6 21 ?_; refine tk 8 23 ?_
         refine pu 10 25 ?_; refine tk 11 26 ?_; refine pu 12 27 ?_
         refine last_ (i := 13) (N := none) #[true, true, true, true, true, true, true, true, true, true, true, true, true, true] rfl rfl (one_of HT_.out (by kernel_rfl)) (by decide) (fun K hK => ?_)
         refine skip_ (w1 := ?_) (by rfl) rfl ?_ ?_
         rotate_left
         ·go_simp
          rfl
         refine hK.out _ _ ?_
         clear hK K
         refine done_ (done_of HT_.out (by kernel_rfl)) ?_
         try go_wp2
         go_roundg k1
         case measure => have := HK1.out; omega
         case rel => exact ⟨(y448), (wrap64 (x4_1 + 1)), (by first | rfl | (simp; done) | (simp [*]; done)), H', ⟨by have := HK1.out; omega⟩, ⟨by (with_reducible repeat (first | apply Kd.R_alloc | apply Kd.R_drewN | apply Kd.R_drew)); exact HQ15.out⟩, ⟨by (with_reducible repeat (first | refine blk_drewN ?_ _ | refine blk_drew ?_ | refine blk_alloc ?_ _)); refine blk_far ?_ (by have h_ := Kd.R_ne HO_3.out BK442.out (by decide); intro e_; exact h_ (by rw [e_]; rfl)) _; (with_reducible repeat (first | refine blk_drewN ?_ _ | refine blk_drew ?_ | refine blk_alloc ?_ _)); refine blk_far ?_ (by have h_ := Kd.R_ne HO_3.out BK442.out (by decide); intro e_; exact h_ (by rw [e_]; rfl)) _; (with_reducible repeat (first | refine blk_drewN ?_ _ | refine blk_drew ?_ | refine blk_alloc ?_ _)); refine blk_far ?_ (by have h_ := Kd.R_ne HO_3.out BK442.out (by decide); intro e_; exact h_ (by rw [e_]; rfl)) _; (with_reducible repeat (first | refine blk_drewN ?_ _ | refine blk_drew ?_ | refine blk_alloc ?_ _)); refine blk_far ?_ (by have h_ := Kd.R_ne HO_3.out BK442.out (by decide); intro e_; exact h_ (by rw [e_]; rfl)) _; (with_reducible repeat (first | refine blk_drewN ?_ _ | refine blk_drew ?_ | refine blk_alloc ?_ _)); exact BK442.out⟩, ⟨qB⟩⟩
        ·rw [if_neg c11] at H
         exact absurd H (by simp)
       ·rw [if_neg c10] at H
        exact absurd H (by simp)
      ·rw [if_neg c9] at H
       exact absurd H (by simp)
     ·rw [if_neg c8] at H
      have c8b0 := decide_eq_false c8
      clear c8
      obtain rfl := Option.some.inj H
      obtain ⟨hcz16_0, hcz16_1, hcz16_2, hcz16_3, hfz16_0, hfz16_1, hfz16_2, hfz16_3⟩ := cells4 BK442.out
      go_wp2
      go_ret
      exact ⟨_, qR, by (with_reducible repeat (first | apply Kd.R_alloc | apply Kd.R_drewN | apply Kd.R_drew)); exact HO_3.out, qB⟩
  ·rw [if_neg c3] at H
   exact absurd H (by simp)
 ·rw [if_neg c2] at H
  exact absurd H (by simp)
def whirligigref22_Common.l0 : Nat → List (S47) → List (S47) → Int → Option (Int)
 | 0, _, _, _ => none
 | k + 1, x5, x6, x7 => if x7 < (x5.length : Int) then (if x7 < (x6.length : Int) then (if 0 ≤ x7 then (if (((rd_T47 x5 x7).f0) == ((rd_T47 x6 x7).f0) && (((rd_T47 x5 x7).f1) == ((rd_T47 x6 x7).f1) && ((((rd_T47 x5 x7).f2).toList) == (((rd_T47 x6 x7).f2).toList) && (((rd_T47 x5 x7).f3) == ((rd_T47 x6 x7).f3))))) = true then (whirligigref22_Common.l0 k x5 x6 (wrap64 (x7 + 1))) else (some x7)) else (none)) else (some x7)) else (some x7)
def whirligigref22_Common.f (k : Nat) (a0_0 : Int) (a0_1 : Int) (a0_2 : Int) (l0_3 : List (S47)) (a1_0 : Int) (a1_1 : Int) (a1_2 : Int) (l1_3 : List (S47)) : Option (Int) := (whirligigref22_Moves.f k a0_0 a0_1 a0_2 l0_3).bind fun t451 => ((whirligigref22_Moves.f k a1_0 a1_1 a1_2 l1_3).bind fun t454 => (whirligigref22_Common.l0 k t451 t454 0))
set_option maxHeartbeats 8000000 in
set_option maxRecDepth 100000 in
theorem whirligigref22_Common.calls (k : Nat) (a0_0 : Int) (a0_1 : Int) (a0_2 : Int) (A0_3 : Option Addr) (c0_3 : Nat) (l0_3 : List (S47)) (a1_0 : Int) (a1_1 : Int) (a1_2 : Int) (A1_3 : Option Addr) (c1_3 : Nat) (l1_3 : List (S47)) (r : Int) (w : World) (hr0_3 : Kd.C k47 w A0_3 l0_3.length l0_3) (hc0_3 : l0_3.length ≤ c0_3) (hr1_3 : Kd.C k47 w A1_3 l1_3.length l1_3) (hc1_3 : l1_3.length ≤ c1_3) (h : whirligigref22_Common.f k a0_0 a0_1 a0_2 l0_3 a1_0 a1_1 a1_2 l1_3 = some r) :
  Calls Tryd.prog 45 #[.agg #[.int .i64 a0_0, .int .i64 a0_1, .int .i64 a0_2, .slice A0_3 l0_3.length c0_3], .agg #[.int .i64 a1_0, .int .i64 a1_1, .int .i64 a1_2, .slice A1_3 l1_3.length c1_3]] w fun e w' => e = .returned (.int .i64 r) ∧ Below w.heap.size w w' := by
 have hu65 := Tryd.underlying65
 have hu47 := Tryd.underlying47
 have HR0_3 := Aside0.mk hr0_3
 have HC0_3 := Aside0.mk hc0_3
 clear hr0_3 hc0_3
 have HR1_3 := Aside0.mk hr1_3
 have HC1_3 := Aside0.mk hc1_3
 clear hr1_3 hc1_3
 have HB := Aside0.mk (Below.refl w.heap.size w)
 have H : ((whirligigref22_Moves.f k a0_0 a0_1 a0_2 l0_3).bind fun t451 => ((whirligigref22_Moves.f k a1_0 a1_1 a1_2 l1_3).bind fun t454 => (whirligigref22_Common.l0 k t451 t454 0))) = some r := h
 clear h
 replace H := Option.bind_eq_some_iff.mp H
 obtain ⟨t451, A30, H⟩ := H
 (try dsimp -simprocs only at H)
 have A3 := Aside0.mk A30
 clear A30
 replace H := Option.bind_eq_some_iff.mp H
 obtain ⟨t454, A40, H⟩ := H
 (try dsimp -simprocs only at H)
 have A4 := Aside0.mk A40
 clear A40
 have H' := Aside0.mk H
 clear H
 go_enter Tryd.func45, Tryd.ntmps45
 go_wp2_with (first | ((with_reducible refine gate_dst (N := 2) rfl ?_); (try (refine gate_guard (by rfl) ?_; dsimp only)); refine box_event ?hg (N := 2) ?hd (cs := #[.int .i64 a0_0, .int .i64 a0_1, .int .i64 a0_2, .slice A0_3 l0_3.length c0_3]) (t := 65) ?hr ?_; (case hd => rfl); (case hg => rfl); (case hr => first | (go_simp; done) | (go_simp; rfl)); intro gb449 hg w5 hbox hb; have BK449 := Aside0.mk (hbox); have GW449 := geS hg; have GE449 := geS hg; replace HB := bst hb; clear hb hbox hg) | ((with_reducible refine gate_dst (N := 3) rfl ?_); (try (refine gate_guard (by rfl) ?_; dsimp only)); refine box_event ?hg (N := 3) ?hd (cs := #[.int .i64 a1_0, .int .i64 a1_1, .int .i64 a1_2, .slice A1_3 l1_3.length c1_3]) (t := 65) ?hr ?_; (case hd => rfl); (case hg => rfl); (case hr => first | (go_simp; done) | (go_simp; rfl)); intro gb450 hg w6 hbox hb; have BK450 := Aside0.mk (hbox); have GW450 := geS hg; have GE450 := geS hg; have NB449_450 := neS gb449 hg; have NB450_449 := neT gb449 hg; replace BK449 := kb gb449 hb; replace HB := bst hb; clear hb hbox hg; have hnb7 := NB449_450.out; have hnc7 := NB450_449.out; obtain ⟨hcz8_0, hcz8_1, hcz8_2, hcz8_3, hfz8_0, hfz8_1, hfz8_2, hfz8_3⟩ := cells4 BK449.out) | (go_at_call 43; (with_reducible refine (whirligigref22_Moves.calls k a0_0 a0_1 a0_2 _ _ l0_3 t451 _ ?side1 ?side2 A3.out).mono ?_); (case side1 => exact qC); (case side2 => exact HC0_3.out); rintro e w9 ⟨v452, rfl, ho0, hb⟩; have HO453 := Aside0.mk (Kd.R_lower ho0 (below_size qB)); replace BK449 := kb gb449 hb; replace BK450 := kb gb450 hb; replace HB := bst hb; (try clear hb); (try clear ho0); obtain ⟨hcz10_0, hcz10_1, hcz10_2, hcz10_3, hfz10_0, hfz10_1, hfz10_2, hfz10_3⟩ := cells4 BK450.out) | (go_at_call 43; (with_reducible refine (whirligigref22_Moves.calls k a1_0 a1_1 a1_2 _ _ l1_3 t454 _ ?side1 ?side2 A4.out).mono ?_); (case side1 => exact qC); (case side2 => exact HC1_3.out); rintro e w11 ⟨v455, rfl, ho0, hb⟩; have n0_ := Aside0.mk (Kd.R_elder' (by (with_reducible repeat (first | apply Kd.R_alloc | apply Kd.R_drewN | apply Kd.R_drew)); exact HO453.out) (Kd.R_base ho0) hb); have n1_ := Aside0.mk (Kd.R_lower (Kd.R_new' ho0 (Kd.R_lt (by (with_reducible repeat (first | apply Kd.R_alloc | apply Kd.R_drewN | apply Kd.R_drew)); exact HO453.out))) (below_size qB)); have n2_ := kb gb449 hb; have n3_ := kb gb450 hb; have n4_ := bst hb; clear HO453; clear BK449; clear BK450; clear HB; have HO453 := n0_; have HO456 := n1_; have BK449 := n2_; have BK450 := n3_; have HB := n4_; clear n0_ n1_ n2_ n3_ n4_; (try clear hb); (try clear ho0)))
 repeat (go_quiet (first | ((with_reducible refine gate_dst (N := 2) rfl ?_); (try (refine gate_guard (by rfl) ?_; dsimp only)); refine box_event ?hg (N := 2) ?hd (cs := #[.int .i64 a0_0, .int .i64 a0_1, .int .i64 a0_2, .slice A0_3 l0_3.length c0_3]) (t := 65) ?hr ?_; (case hd => rfl); (case hg => rfl); (case hr => first | (go_simp; done) | (go_simp; rfl)); intro gb449 hg w5 hbox hb; have BK449 := Aside0.mk (hbox); have GW449 := geS hg; have GE449 := geS hg; replace HB := bst hb; clear hb hbox hg) | ((with_reducible refine gate_dst (N := 3) rfl ?_); (try (refine gate_guard (by rfl) ?_; dsimp only)); refine box_event ?hg (N := 3) ?hd (cs := #[.int .i64 a1_0, .int .i64 a1_1, .int .i64 a1_2, .slice A1_3 l1_3.length c1_3]) (t := 65) ?hr ?_; (case hd => rfl); (case hg => rfl); (case hr => first | (go_simp; done) | (go_simp; rfl)); intro gb450 hg w6 hbox hb; have BK450 := Aside0.mk (hbox); have GW450 := geS hg; have GE450 := geS hg; have NB449_450 := neS gb449 hg; have NB450_449 := neT gb449 hg; replace BK449 := kb gb449 hb; replace HB := bst hb; clear hb hbox hg; have hnb7 := NB449_450.out; have hnc7 := NB450_449.out; obtain ⟨hcz8_0, hcz8_1, hcz8_2, hcz8_3, hfz8_0, hfz8_1, hfz8_2, hfz8_3⟩ := cells4 BK449.out) | (go_at_call 43; (with_reducible refine (whirligigref22_Moves.calls k a0_0 a0_1 a0_2 _ _ l0_3 t451 _ ?side1 ?side2 A3.out).mono ?_); (case side1 => exact qC); (case side2 => exact HC0_3.out); rintro e w9 ⟨v452, rfl, ho0, hb⟩; have HO453 := Aside0.mk (Kd.R_lower ho0 (below_size qB)); replace BK449 := kb gb449 hb; replace BK450 := kb gb450 hb; replace HB := bst hb; (try clear hb); (try clear ho0); obtain ⟨hcz10_0, hcz10_1, hcz10_2, hcz10_3, hfz10_0, hfz10_1, hfz10_2, hfz10_3⟩ := cells4 BK450.out) | (go_at_call 43; (with_reducible refine (whirligigref22_Moves.calls k a1_0 a1_1 a1_2 _ _ l1_3 t454 _ ?side1 ?side2 A4.out).mono ?_); (case side1 => exact qC); (case side2 => exact HC1_3.out); rintro e w11 ⟨v455, rfl, ho0, hb⟩; have n0_ := Aside0.mk (Kd.R_elder' (by (with_reducible repeat (first | apply Kd.R_alloc | apply Kd.R_drewN | apply Kd.R_drew)); exact HO453.out) (Kd.R_base ho0) hb); have n1_ := Aside0.mk (Kd.R_lower (Kd.R_new' ho0 (Kd.R_lt (by (with_reducible repeat (first | apply Kd.R_alloc | apply Kd.R_drewN | apply Kd.R_drew)); exact HO453.out))) (below_size qB)); have n2_ := kb gb449 hb; have n3_ := kb gb450 hb; have n4_ := bst hb; clear HO453; clear BK449; clear BK450; clear HB; have HO453 := n0_; have HO456 := n1_; have BK449 := n2_; have BK450 := n3_; have HB := n4_; clear n0_ n1_ n2_ n3_ n4_; (try clear hb); (try clear ho0))); try go_wp2_with (first | ((with_reducible refine gate_dst (N := 2) rfl ?_); (try (refine gate_guard (by rfl) ?_; dsimp only)); refine box_event ?hg (N := 2) ?hd (cs := #[.int .i64 a0_0, .int .i64 a0_1, .int .i64 a0_2, .slice A0_3 l0_3.length c0_3]) (t := 65) ?hr ?_; (case hd => rfl); (case hg => rfl); (case hr => first | (go_simp; done) | (go_simp; rfl)); intro gb449 hg w5 hbox hb; have BK449 := Aside0.mk (hbox); have GW449 := geS hg; have GE449 := geS hg; replace HB := bst hb; clear hb hbox hg) | ((with_reducible refine gate_dst (N := 3) rfl ?_); (try (refine gate_guard (by rfl) ?_; dsimp only)); refine box_event ?hg (N := 3) ?hd (cs := #[.int .i64 a1_0, .int .i64 a1_1, .int .i64 a1_2, .slice A1_3 l1_3.length c1_3]) (t := 65) ?hr ?_; (case hd => rfl); (case hg => rfl); (case hr => first | (go_simp; done) | (go_simp; rfl)); intro gb450 hg w6 hbox hb; have BK450 := Aside0.mk (hbox); have GW450 := geS hg; have GE450 := geS hg; have NB449_450 := neS gb449 hg; have NB450_449 := neT gb449 hg; replace BK449 := kb gb449 hb; replace HB := bst hb; clear hb hbox hg; have hnb7 := NB449_450.out; have hnc7 := NB450_449.out; obtain ⟨hcz8_0, hcz8_1, hcz8_2, hcz8_3, hfz8_0, hfz8_1, hfz8_2, hfz8_3⟩ := cells4 BK449.out) | (go_at_call 43; (with_reducible refine (whirligigref22_Moves.calls k a0_0 a0_1 a0_2 _ _ l0_3 t451 _ ?side1 ?side2 A3.out).mono ?_); (case side1 => exact qC); (case side2 => exact HC0_3.out); rintro e w9 ⟨v452, rfl, ho0, hb⟩; have HO453 := Aside0.mk (Kd.R_lower ho0 (below_size qB)); replace BK449 := kb gb449 hb; replace BK450 := kb gb450 hb; replace HB := bst hb; (try clear hb); (try clear ho0); obtain ⟨hcz10_0, hcz10_1, hcz10_2, hcz10_3, hfz10_0, hfz10_1, hfz10_2, hfz10_3⟩ := cells4 BK450.out) | (go_at_call 43; (with_reducible refine (whirligigref22_Moves.calls k a1_0 a1_1 a1_2 _ _ l1_3 t454 _ ?side1 ?side2 A4.out).mono ?_); (case side1 => exact qC); (case side2 => exact HC1_3.out); rintro e w11 ⟨v455, rfl, ho0, hb⟩; have n0_ := Aside0.mk (Kd.R_elder' (by (with_reducible repeat (first | apply Kd.R_alloc | apply Kd.R_drewN | apply Kd.R_drew)); exact HO453.out) (Kd.R_base ho0) hb); have n1_ := Aside0.mk (Kd.R_lower (Kd.R_new' ho0 (Kd.R_lt (by (with_reducible repeat (first | apply Kd.R_alloc | apply Kd.R_drewN | apply Kd.R_drew)); exact HO453.out))) (below_size qB)); have n2_ := kb gb449 hb; have n3_ := kb gb450 hb; have n4_ := bst hb; clear HO453; clear BK449; clear BK450; clear HB; have HO453 := n0_; have HO456 := n1_; have BK449 := n2_; have BK450 := n3_; have HB := n4_; clear n0_ n1_ n2_ n3_ n4_; (try clear hb); (try clear ho0))))
 go_loopg [7] k (fun kq v7 w' => ∃ (x7_1 : Int), v7 = .int .i64 x7_1 ∧ Aside0 (whirligigref22_Common.l0 kq t451 t454 x7_1 = some r) ∧ Aside0 (kq ≤ k) ∧ Aside0 (Kd.R k47 47 w' w.heap.size (fun k_ => some k_ ≠ (v455 : Value).ownBlock) v452 t451) ∧ Aside0 (Kd.R k47 47 w' w.heap.size (fun k_ => some k_ ≠ (v452 : Value).ownBlock) v455 t454) ∧ Aside0 (w'.heap[gb449]? = some (.cells #[.int .i64 a0_0, .int .i64 a0_1, .int .i64 a0_2, (.slice A0_3 l0_3.length c0_3)] 65 (0, 0))) ∧ Aside0 (w'.heap[gb450]? = some (.cells #[.int .i64 a1_0, .int .i64 a1_1, .int .i64 a1_2, (.slice A1_3 l1_3.length c1_3)] 65 (0, 0))) ∧ Aside0 (Below w.heap.size w w'))
 case atStart => exact ⟨(0), (by first | rfl | (simp; done) | (simp [*]; done)), H', ⟨Nat.le_refl _⟩, ⟨by (with_reducible repeat (first | apply Kd.R_alloc | apply Kd.R_drewN | apply Kd.R_drew)); exact Kd.R_mono HO453.out (fun _ hk => hk.2)⟩, ⟨by (with_reducible repeat (first | apply Kd.R_alloc | apply Kd.R_drewN | apply Kd.R_drew)); exact Kd.R_mono HO456.out (fun _ hk => hk.2)⟩, ⟨qK⟩, ⟨qK⟩, ⟨qB⟩⟩
 case round =>
  clear H'
  try clear c1
  try clear p2
  try clear c4
  try clear c7
  try clear hcz10_0 hcz10_1 hcz10_2 hcz10_3 hfz10_0 hfz10_1 hfz10_2 hfz10_3
  try clear hcz8_0 hcz8_1 hcz8_2 hcz8_3 hfz8_0 hfz8_1 hfz8_2 hfz8_3
  obtain ⟨x7_1, rfl, HA, HK1, HO_5, HO_6, BK449, BK450, HB⟩ := hrel
  cases gk with
  | zero => exact absurd HA.out (by simp [whirligigref22_Common.l0])
  | succ k1 =>
   have H := HA.out
   clear HA
   simp only [whirligigref22_Common.l0] at H
   by_cases c12 : x7_1 < (t451.length : Int)
   ·rw [if_pos c12] at H
    have c12b0 := decide_eq_true c12
    clear c12
    by_cases c13 : x7_1 < (t454.length : Int)
    ·rw [if_pos c13] at H
     have c13b0 := decide_eq_true c13
     clear c13
     by_cases c14 : 0 ≤ x7_1
     ·rw [if_pos c14] at H
      have c14b0 := decide_eq_true c14
      clear c14
      by_cases c15 : (((rd_T47 t451 x7_1).f0) == ((rd_T47 t454 x7_1).f0) && (((rd_T47 t451 x7_1).f1) == ((rd_T47 t454 x7_1).f1) && ((((rd_T47 t451 x7_1).f2).toList) == (((rd_T47 t454 x7_1).f2).toList) && (((rd_T47 t451 x7_1).f3) == ((rd_T47 t454 x7_1).f3))))) = true
      ·rw [if_pos c15] at H
       have c15b0 : (((rd_T47 t451 x7_1).f0) == ((rd_T47 t454 x7_1).f0) && (((rd_T47 t451 x7_1).f1) == ((rd_T47 t454 x7_1).f1) && ((((rd_T47 t451 x7_1).f2).toList) == (((rd_T47 t454 x7_1).f2).toList) && (((rd_T47 t451 x7_1).f3) == ((rd_T47 t454 x7_1).f3))))) = true := c15
       (try (have c15b1 : decide (((rd_T47 t451 x7_1).f0) = ((rd_T47 t454 x7_1).f0) && (((rd_T47 t451 x7_1).f1) == ((rd_T47 t454 x7_1).f1) && ((((rd_T47 t451 x7_1).f2).toList) == (((rd_T47 t454 x7_1).f2).toList) && (((rd_T47 t451 x7_1).f3) == ((rd_T47 t454 x7_1).f3))))) = true := by simpa using c15))
       (try (have c15b2 : (((rd_T47 t451 x7_1).f0) == ((rd_T47 t454 x7_1).f0) && (((rd_T47 t451 x7_1).f1) == ((rd_T47 t454 x7_1).f1) && ((((rd_T47 t451 x7_1).f2).toList) == (((rd_T47 t454 x7_1).f2).toList) && (((rd_T47 t451 x7_1).f3) == ((rd_T47 t454 x7_1).f3))))) = true := by simpa using c15))
       clear c15
       have H' := Aside0.mk H
       clear H
       obtain ⟨Ao16, co16, eo16⟩ := Kd.R_slice HO_5.out
       subst eo16
       obtain ⟨Ao17, co17, eo17⟩ := Kd.R_slice HO_6.out
       subst eo17
       have p457 : 0 ≤ (x7_1 : Int) := qD
       have q457 : x7_1 < (t451.length : Int) := qD
       obtain ⟨ad457, e457, hx457_0, hx457_1, hx457_2, hx457_3⟩ := at_T47 (Kd.R_reads' HO_5.out).2.2 x7_1 p457 q457
       cases e457
       replace p457 := eq_true p457
       replace q457 := eq_true q457
       have p458 : 0 ≤ (x7_1 : Int) := qD
       have q458 : x7_1 < (t454.length : Int) := qD
       obtain ⟨ad458, e458, hx458_0, hx458_1, hx458_2, hx458_3⟩ := at_T47 (Kd.R_reads' HO_6.out).2.2 x7_1 p458 q458
       cases e458
       replace p458 := eq_true p458
       replace q458 := eq_true q458
       go_wp2
       repeat (go_quiet (fail); try go_wp2)
       go_roundg k1
       case measure => have := HK1.out; omega
       case rel => exact ⟨(wrap64 (x7_1 + 1)), (by first | rfl | (simp; done) | (simp [*]; done)), H', ⟨by have := HK1.out; omega⟩, ⟨by (with_reducible repeat (first | apply Kd.R_alloc | apply Kd.R_drewN | apply Kd.R_drew)); exact HO_5.out⟩, ⟨by (with_reducible repeat (first | apply Kd.R_alloc | apply Kd.R_drewN | apply Kd.R_drew)); exact HO_6.out⟩, ⟨qK⟩, ⟨qK⟩, ⟨qB⟩⟩
      ·rw [if_neg c15] at H
       have c15b0 : (((rd_T47 t451 x7_1).f0) == ((rd_T47 t454 x7_1).f0) && (((rd_T47 t451 x7_1).f1) == ((rd_T47 t454 x7_1).f1) && ((((rd_T47 t451 x7_1).f2).toList) == (((rd_T47 t454 x7_1).f2).toList) && (((rd_T47 t451 x7_1).f3) == ((rd_T47 t454 x7_1).f3))))) = false := by simpa using c15
       (try (have c15b1 : decide (((rd_T47 t451 x7_1).f0) = ((rd_T47 t454 x7_1).f0) && (((rd_T47 t451 x7_1).f1) == ((rd_T47 t454 x7_1).f1) && ((((rd_T47 t451 x7_1).f2).toList) == (((rd_T47 t454 x7_1).f2).toList) && (((rd_T47 t451 x7_1).f3) == ((rd_T47 t454 x7_1).f3))))) = false := by simpa using c15))
       (try (have c15b2 : (((rd_T47 t451 x7_1).f0) == ((rd_T47 t454 x7_1).f0) && (((rd_T47 t451 x7_1).f1) == ((rd_T47 t454 x7_1).f1) && ((((rd_T47 t451 x7_1).f2).toList) == (((rd_T47 t454 x7_1).f2).toList) && (((rd_T47 t451 x7_1).f3) == ((rd_T47 t454 x7_1).f3))))) = false := by simpa using c15))
       (try (have c15b3 : ¬ (((rd_T47 t451 x7_1).f0) = ((rd_T47 t454 x7_1).f0) && (((rd_T47 t451 x7_1).f1) == ((rd_T47 t454 x7_1).f1) && ((((rd_T47 t451 x7_1).f2).toList) == (((rd_T47 t454 x7_1).f2).toList) && (((rd_T47 t451 x7_1).f3) == ((rd_T47 t454 x7_1).f3))))) := by simpa using c15))
       clear c15
       obtain rfl := Option.some.inj H
       obtain ⟨Ao18, co18, eo18⟩ := Kd.R_slice HO_5.out
       subst eo18
       obtain ⟨Ao19, co19, eo19⟩ := Kd.R_slice HO_6.out
       subst eo19
       have p457 : 0 ≤ (x7_1 : Int) := qD
       have q457 : x7_1 < (t451.length : Int) := qD
       obtain ⟨ad457, e457, hx457_0, hx457_1, hx457_2, hx457_3⟩ := at_T47 (Kd.R_reads' HO_5.out).2.2 x7_1 p457 q457
       cases e457
       replace p457 := eq_true p457
       replace q457 := eq_true q457
       have p458 : 0 ≤ (x7_1 : Int) := qD
       have q458 : x7_1 < (t454.length : Int) := qD
       obtain ⟨ad458, e458, hx458_0, hx458_1, hx458_2, hx458_3⟩ := at_T47 (Kd.R_reads' HO_6.out).2.2 x7_1 p458 q458
       cases e458
       replace p458 := eq_true p458
       replace q458 := eq_true q458
       go_wp2
       repeat (go_quiet (fail); try go_wp2)
       go_ret
       exact ⟨qR, qB⟩
     ·rw [if_neg c14] at H
      exact absurd H (by simp)
    ·rw [if_neg c13] at H
     have c13b0 := decide_eq_false c13
     clear c13
     obtain rfl := Option.some.inj H
     obtain ⟨Ao20, co20, eo20⟩ := Kd.R_slice HO_5.out
     subst eo20
     obtain ⟨Ao21, co21, eo21⟩ := Kd.R_slice HO_6.out
     subst eo21
     go_wp2
     repeat (go_quiet (fail); try go_wp2)
     go_ret
     exact ⟨qR, qB⟩
   ·rw [if_neg c12] at H
    have c12b0 := decide_eq_false c12
    clear c12
    obtain rfl := Option.some.inj H
    obtain ⟨Ao22, co22, eo22⟩ := Kd.R_slice HO_5.out
    subst eo22
    go_wp2
    repeat (go_quiet (fail); try go_wp2)
    go_ret
    exact ⟨qR, qB⟩
end Go.Proofs.YtbngfhlciebeeaaDoor.L
