/- Printed and hand-written steps towards the row (TreeEnds), those that it reaches. -/
import Derived.Test.YtbngfhlciebeeaaDoorTreeEndsG5
import Derived.Test.YtbngfhlciebeeaaDoorTreeEndsG6
import Derived.Test.YtbngfhlciebeeaaDoorTreeEndsLxf35
import Derived.Test.YtbngfhlciebeeaaDoorTreeEndsG23
import Derived.Test.YtbngfhlciebeeaaDoorTreeEndsLxf40
import Derived.Test.YtbngfhlciebeeaaDoorTreeEndsLxf41
namespace Go.Proofs.YtbngfhlciebeeaaDoor.L
open Go.RowKit Go.Proofs.YtbngfhlciebeeaaDoorW.PrintWords Go.Proofs.YtbngfhlciebeeaaDoorW.PrintLast Go.Proofs.YtbngfhlciebeeaaDoorW.PrintMore
attribute [local go_sem] max2_int min2_int max_two min_two max_three min_three max_four min_four   -- for this text's walks alone
set_option linter.unusedVariables false
set_option linter.unusedSimpArgs false
def whirligiglaw22_anchor.l0 : Nat → List (S43) → Int → Option (Bool)
 | 0, _, _ => none
 | k + 1, x1, x6 => if x6 < 3 then ((tree_Tree_Grow.f x1 0).bind fun bt426 => (whirligiglaw22_anchor.l0 k bt426.1 (wrap64 (x6 + 1)))) else ((tree_Tree_Put.f k x1 0 1 0 1 (⟨#[101]⟩ : ByteArray) 0).bind fun bt430 => (if bt430.2.2 = 0 then (if bt430.2.1 = 1 then (if (bt430.1.length : Int) = 2 then (if 1 < (bt430.1.length : Int) then (if ((rd_T43 bt430.1 1).f2) = 2 then (if 0 < (bt430.1.length : Int) then (if ((rd_T43 bt430.1 0).f2) = 3 then ((tree_Tree_Right.f k bt430.1).bind fun t437 => (some t437)) else (some false)) else (none)) else (some false)) else (none)) else (some false)) else (some false)) else (some false)))
def whirligiglaw22_anchor.f (k : Nat)  : Option (Bool) := (tree_New.f).bind fun t423 => (whirligiglaw22_anchor.l0 k t423 0)
set_option maxHeartbeats 8000000 in
set_option maxRecDepth 100000 in
theorem whirligiglaw22_anchor.calls (k : Nat)  (r : Bool) (w : World) (hL : Laid w) (h : whirligiglaw22_anchor.f k  = some r) :
  Calls Tryd.prog 32 #[] w fun e w' => e = .returned (.bool r) ∧ Below w.heap.size w w' := by
 have hu45 := Tryd.underlying45
 have HB := Aside0.mk (Below.refl w.heap.size w)
 have HLD := Aside0.mk hL
 clear hL
 have H : ((tree_New.f).bind fun t423 => (whirligiglaw22_anchor.l0 k t423 0)) = some r := h
 clear h
 replace H := Option.bind_eq_some_iff.mp H
 obtain ⟨t423, A10, H⟩ := H
 (try dsimp -simprocs only at H)
 have A1 := Aside0.mk A10
 clear A10
 have H' := Aside0.mk H
 clear H
 go_enter Tryd.func32, Tryd.ntmps32
 go_wp2_with (first | ((with_reducible refine gc 39 rfl ?_); refine gl (some 5) #[] Tryd.func39 ?_; (with_reducible refine (tree_New.calls  t423 _ A1.out).mono ?_); rintro e w2 ⟨v424, rfl, ho0, hb⟩; refine ⟨_, rfl, ?_⟩; have HO425 := Aside0.mk (Kd.S_lower ho0 (below_size qB)); replace HB := bst hb; (try clear hb); (try clear ho0)))
 go_loopg [1, 6] k (fun kq v1 v6 w' => ∃ (x1_1 : List (S43)) (x6_1 : Int), v6 = .int .i64 x6_1 ∧ Aside0 (whirligiglaw22_anchor.l0 kq x1_1 x6_1 = some r) ∧ Aside0 (kq ≤ k) ∧ Aside0 (Kd.S k43 43 w' w.heap.size (fun _ => True) v1 x1_1) ∧ Aside0 (Below w.heap.size w w'))
 case atStart => exact ⟨(t423), (0), (by first | rfl | (simp; done) | (simp [*]; done)), H', ⟨Nat.le_refl _⟩, ⟨by (with_reducible repeat (first | apply Kd.S_alloc | apply Kd.S_drewN | apply Kd.S_drew)); exact HO425.out⟩, ⟨qB⟩⟩
 case round =>
  clear H'
  try clear p2
  obtain ⟨x1_1, x6_1, rfl, HA, HK1, HO_1, HB⟩ := hrel
  cases gk with
  | zero => exact absurd HA.out (by simp [whirligiglaw22_anchor.l0])
  | succ k1 =>
   have H := HA.out
   clear HA
   simp only [whirligiglaw22_anchor.l0] at H
   replace H := iD H
   rcases H with ⟨c3b0, H⟩ | ⟨c3b0, H⟩
   ·replace H := Option.bind_eq_some_iff.mp H
    obtain ⟨⟨t426, t427⟩, A40, H⟩ := H
    (try dsimp -simprocs only at H)
    have A4 := Aside0.mk A40
    clear A40
    have H' := Aside0.mk H
    clear H
    obtain ⟨Ao5, co5, eo5⟩ := Kd.S_slice HO_1.out
    subst eo5
    go_wp2_with (first | ((with_reducible refine gc 40 rfl ?_); refine gl (some 10) #[.slice Ao5 x1_1.length co5, .int .i64 0] Tryd.func40 ?_; (with_reducible refine (tree_Tree_Grow.calls _ _ x1_1 0 t426 t427 _ ?side1 ?side2 A4.out).mono ?_); (case side1 => repeat (first | exact (Kd.S_reads' HO_1.out).2.2 | (with_reducible refine Kd.C_alloc ?_ _) | (with_reducible refine Kd.C_drewN ?_ _) | (with_reducible refine Kd.C_drew ?_))); (case side2 => exact (Kd.S_reads' HO_1.out).2.1); rintro e w6 ⟨v428, rfl, ho0, hb⟩; refine ⟨_, rfl, ?_⟩; have n0_ := Aside0.mk (Kd.S_elder' (by (with_reducible repeat (first | apply Kd.S_alloc | apply Kd.S_drewN | apply Kd.S_drew)); exact HO_1.out) (Kd.S_base ho0) hb); have n1_ := Aside0.mk (Kd.S_lower (Kd.S_new' ho0 (Kd.S_lt (by (with_reducible repeat (first | apply Kd.S_alloc | apply Kd.S_drewN | apply Kd.S_drew)); exact HO_1.out))) (below_size qB)); have n2_ := bst hb; clear HO_1; clear HB; have HO_1 := n0_; have HO429 := n1_; have HB := n2_; clear n0_ n1_ n2_; (try clear hb); (try clear ho0)))
    go_roundg k1
    case measure => have := HK1.out; omega
    case rel => exact ⟨(t426), (wrap64 (x6_1 + 1)), (by first | rfl | (simp; done) | (simp [*]; done)), H', ⟨by have := HK1.out; omega⟩, ⟨by (with_reducible repeat (first | apply Kd.S_alloc | apply Kd.S_drewN | apply Kd.S_drew)); exact Kd.S_mono HO429.out (fun _ hk => trivial)⟩, ⟨qB⟩⟩
   ·replace H := Option.bind_eq_some_iff.mp H
    obtain ⟨⟨t430, t433, t434⟩, A70, H⟩ := H
    (try dsimp -simprocs only at H)
    have A7 := Aside0.mk A70
    clear A70
    by_cases c8 : t434 = 0
    ·rw [if_pos c8] at H
     have c8b0 := beq_iff_eq.mpr c8
     have c8b1 := bne_eq_false_iff_eq.mpr c8
     clear c8
     by_cases c9 : t433 = 1
     ·rw [if_pos c9] at H
      have c9b0 := beq_iff_eq.mpr c9
      have c9b1 := bne_eq_false_iff_eq.mpr c9
      clear c9
      by_cases c10 : (t430.length : Int) = 2
      ·rw [if_pos c10] at H
       have c10b0 := beq_iff_eq.mpr c10
       have c10b1 := bne_eq_false_iff_eq.mpr c10
       clear c10
       by_cases c11 : 1 < (t430.length : Int)
       ·rw [if_pos c11] at H
        have c11b0 := decide_eq_true c11
        have c11b1 : decide (1 < t430.length) = true := decide_eq_true (by omega)
        clear c11
        by_cases c12 : ((rd_T43 t430 1).f2) = 2
        ·rw [if_pos c12] at H
         have c12b0 := beq_iff_eq.mpr c12
         have c12b1 := bne_eq_false_iff_eq.mpr c12
         clear c12
         by_cases c13 : 0 < (t430.length : Int)
         ·rw [if_pos c13] at H
          have c13b0 := decide_eq_true c13
          have c13b1 : decide (0 < t430.length) = true := decide_eq_true (by omega)
          clear c13
          by_cases c14 : ((rd_T43 t430 0).f2) = 3
          ·rw [if_pos c14] at H
           have c14b0 := beq_iff_eq.mpr c14
           have c14b1 := bne_eq_false_iff_eq.mpr c14
           clear c14
           replace H := Option.bind_eq_some_iff.mp H
           obtain ⟨t437, A150, H⟩ := H
           (try dsimp -simprocs only at H)
           have A15 := Aside0.mk A150
           clear A150
           obtain rfl := Option.some.inj H
           obtain ⟨Ao16, co16, eo16⟩ := Kd.S_slice HO_1.out
           subst eo16
           go_wp2_with (first | ((with_reducible refine gc 41 rfl ?_); refine gl (some 17) #[.slice Ao16 x1_1.length co16, .int .i64 0, .int .i64 1, .agg #[.int .i64 0, .int .i64 1, .string (⟨#[101]⟩ : ByteArray), .int .i64 0]] Tryd.func41 ?_; (with_reducible refine (tree_Tree_Put.calls k1 _ _ x1_1 0 1 0 1 (⟨#[101]⟩ : ByteArray) 0 t430 t433 t434 _ ?side1 ?side2 ?side3 A7.out).mono ?_); (case side1 => repeat (first | exact (Kd.S_reads' HO_1.out).2.2 | (with_reducible refine Kd.C_alloc ?_ _) | (with_reducible refine Kd.C_drewN ?_ _) | (with_reducible refine Kd.C_drew ?_))); (case side2 => exact (Kd.S_reads' HO_1.out).2.1); (case side3 => exact Laid.below HLD.out qB); rintro e w17 ⟨v431, rfl, ho0, hb⟩; refine ⟨_, rfl, ?_⟩; have n0_ := Aside0.mk (Kd.S_elder' (by (with_reducible repeat (first | apply Kd.S_alloc | apply Kd.S_drewN | apply Kd.S_drew)); exact HO_1.out) (Kd.S_base ho0) hb); have n1_ := Aside0.mk (Kd.S_lower (Kd.S_new' ho0 (Kd.S_lt (by (with_reducible repeat (first | apply Kd.S_alloc | apply Kd.S_drewN | apply Kd.S_drew)); exact HO_1.out))) (below_size qB)); have n2_ := bst hb; clear HO_1; clear HB; have HO_1 := n0_; have HO432 := n1_; have HB := n2_; clear n0_ n1_ n2_; (try clear hb); (try clear ho0); obtain ⟨Ao18, co18, eo18⟩ := Kd.S_slice HO432.out; subst eo18; have p435 : 0 ≤ (1 : Int) := (by omega); have q435 : 1 < (t430.length : Int) := qD; obtain ⟨ad435, A435_3, c435_3, e435, hx435_0, hx435_1, hx435_2, hx435_3, hl435_3, hi435_3⟩ := at_T43 (Kd.S_reads' HO432.out).2.2 1 p435 q435; cases e435; obtain ⟨ce435, hce435, hMe435, hcc435⟩ := Kd.S_get HO432.out z43 1 p435 (by first | exact q435 | exact qD | (have e_ := (Kd.S_reads' HO432.out).1; omega)); obtain ⟨ve435_3, rfl, ge435_3⟩ := k43_openM hMe435; have hv435_3 := hcc435 3 _ rfl; rw [add_field _ _ 3 (by omega)] at hv435_3; replace hv435_3 := Option.some.inj (hv435_3.symm.trans hx435_3); rw [hv435_3] at ge435_3; have HL435_3 := Aside0.mk (show Kd.R k45 45 _ _ _ _ ((rd_T43 t430 1).f3) from ge435_3); clear hv435_3 ge435_3; clear hcc435 hce435; (try simp only [show (1 : Int).toNat = 1 from rfl, Nat.reduceMul, Nat.reduceEqDiff, Go.Addr.add, ↓reduceIte] at hx435_0); (try simp only [show (1 : Int).toNat = 1 from rfl, Nat.reduceMul, Nat.reduceEqDiff, Go.Addr.add, ↓reduceIte] at hx435_1); (try simp only [show (1 : Int).toNat = 1 from rfl, Nat.reduceMul, Nat.reduceEqDiff, Go.Addr.add, ↓reduceIte] at hx435_2); (try simp only [show (1 : Int).toNat = 1 from rfl, Nat.reduceMul, Nat.reduceEqDiff, Go.Addr.add, ↓reduceIte] at hx435_3); have qi435 : (1 < t430.length) = True := eq_true (by omega); (try rw [show ((1 : Int)).toNat = 1 from rfl] at hx435_0); (try rw [show 1 * 4 = 4 from rfl] at hx435_0); (try rw [show ((1 : Int)).toNat = 1 from rfl] at hx435_1); (try rw [show 1 * 4 = 4 from rfl] at hx435_1); (try rw [show ((1 : Int)).toNat = 1 from rfl] at hx435_2); (try rw [show 1 * 4 = 4 from rfl] at hx435_2); (try rw [show ((1 : Int)).toNat = 1 from rfl] at hx435_3); (try rw [show 1 * 4 = 4 from rfl] at hx435_3); have HR435_3 := Aside0.mk hi435_3; have HC435_3 := Aside0.mk hl435_3; clear hi435_3 hl435_3; replace p435 := eq_true p435; replace q435 := eq_true q435; have p436 : 0 ≤ (0 : Int) := (by omega); have q436 : 0 < (t430.length : Int) := qD; obtain ⟨ad436, A436_3, c436_3, e436, hx436_0, hx436_1, hx436_2, hx436_3, hl436_3, hi436_3⟩ := at_T43 (Kd.S_reads' HO432.out).2.2 0 p436 q436; obtain rfl : ad435 = ad436 := (by injection e436); obtain ⟨ce436, hce436, hMe436, hcc436⟩ := Kd.S_get HO432.out z43 0 p436 (by first | exact q436 | exact qD | (have e_ := (Kd.S_reads' HO432.out).1; omega)); obtain ⟨ve436_3, rfl, ge436_3⟩ := k43_openM hMe436; have hv436_3 := hcc436 3 _ rfl; rw [add_field _ _ 3 (by omega)] at hv436_3; replace hv436_3 := Option.some.inj (hv436_3.symm.trans hx436_3); rw [hv436_3] at ge436_3; have HL436_3 := Aside0.mk (show Kd.R k45 45 _ _ _ _ ((rd_T43 t430 0).f3) from ge436_3); clear hv436_3 ge436_3; clear hcc436 hce436; have qi436 : (0 < t430.length) = True := eq_true (by omega); (try rw [show ((0 : Int)).toNat = 0 from rfl] at hx436_0); (try rw [show 0 * 4 = 0 from rfl] at hx436_0); (try rw [Addr.add_zero'] at hx436_0); (try rw [show ((0 : Int)).toNat = 0 from rfl] at hx436_1); (try rw [show 0 * 4 = 0 from rfl] at hx436_1); (try rw [Addr.add_zero'] at hx436_1); (try rw [show ((0 : Int)).toNat = 0 from rfl] at hx436_2); (try rw [show 0 * 4 = 0 from rfl] at hx436_2); (try rw [Addr.add_zero'] at hx436_2); (try rw [show ((0 : Int)).toNat = 0 from rfl] at hx436_3); (try rw [show 0 * 4 = 0 from rfl] at hx436_3); (try rw [Addr.add_zero'] at hx436_3); have HR436_3 := Aside0.mk hi436_3; have HC436_3 := Aside0.mk hl436_3; clear hi436_3 hl436_3; replace p436 := eq_true p436; replace q436 := eq_true q436) | (go_at_call 35; (with_reducible refine (tree_Tree_Right.calls k1 _ _ t430 t437 _ ?side1 ?side2 ?side3 A15.out).mono ?_); (case side1 => repeat (first | exact (Kd.S_reads' HO432.out).2.2 | (with_reducible refine Kd.C_alloc ?_ _) | (with_reducible refine Kd.C_drewN ?_ _) | (with_reducible refine Kd.C_drew ?_))); (case side2 => exact (Kd.S_reads' HO432.out).2.1); (case side3 => exact Laid.below HLD.out qB); rintro e w19 ⟨rfl, hb⟩; have n0_ := Aside0.mk (Kd.S_below (by (with_reducible repeat (first | apply Kd.S_alloc | apply Kd.S_drewN | apply Kd.S_drew)); exact HO_1.out) hb); have n1_ := Aside0.mk (Kd.S_below (by (with_reducible repeat (first | apply Kd.S_alloc | apply Kd.S_drewN | apply Kd.S_drew)); exact HO432.out) hb); have n2_ := Aside0.mk (Kd.R_below (by (with_reducible repeat (first | apply Kd.R_alloc | apply Kd.R_drewN | apply Kd.R_drew)); exact HL435_3.out) hb); have n3_ := Aside0.mk (Kd.R_below (by (with_reducible repeat (first | apply Kd.R_alloc | apply Kd.R_drewN | apply Kd.R_drew)); exact HL436_3.out) hb); have n4_ := Aside0.mk (Kd.C_below (by repeat (first | (with_reducible exact HR435_3.out) | (with_reducible refine Kd.C_alloc ?_ _) | (with_reducible refine Kd.C_drewN ?_ _) | (with_reducible refine Kd.C_drew ?_) | exact HR435_3.out)) hb); have n5_ := Aside0.mk (Kd.C_below (by repeat (first | (with_reducible exact HR436_3.out) | (with_reducible refine Kd.C_alloc ?_ _) | (with_reducible refine Kd.C_drewN ?_ _) | (with_reducible refine Kd.C_drew ?_) | exact HR436_3.out)) hb); have n6_ := bst hb; clear HO_1; clear HO432; clear HL435_3; clear HL436_3; clear HR435_3; clear HR436_3; clear HB; have HO_1 := n0_; have HO432 := n1_; have HL435_3 := n2_; have HL436_3 := n3_; have HR435_3 := n4_; have HR436_3 := n5_; have HB := n6_; clear n0_ n1_ n2_ n3_ n4_ n5_ n6_; (try clear hb)))
           go_ret
           exact ⟨qR, qB⟩
          ·rw [if_neg c14] at H
           have c14b0 := beq_eq_false_iff_ne.mpr c14
           have c14b1 := bne_iff_ne.mpr c14
           obtain rfl := Option.some.inj H
           obtain ⟨Ao20, co20, eo20⟩ := Kd.S_slice HO_1.out
           subst eo20
           go_wp2_with (first | ((with_reducible refine gc 41 rfl ?_); refine gl (some 17) #[.slice Ao20 x1_1.length co20, .int .i64 0, .int .i64 1, .agg #[.int .i64 0, .int .i64 1, .string (⟨#[101]⟩ : ByteArray), .int .i64 0]] Tryd.func41 ?_; (with_reducible refine (tree_Tree_Put.calls k1 _ _ x1_1 0 1 0 1 (⟨#[101]⟩ : ByteArray) 0 t430 t433 t434 _ ?side1 ?side2 ?side3 A7.out).mono ?_); (case side1 => repeat (first | exact (Kd.S_reads' HO_1.out).2.2 | (with_reducible refine Kd.C_alloc ?_ _) | (with_reducible refine Kd.C_drewN ?_ _) | (with_reducible refine Kd.C_drew ?_))); (case side2 => exact (Kd.S_reads' HO_1.out).2.1); (case side3 => exact Laid.below HLD.out qB); rintro e w21 ⟨v431, rfl, ho0, hb⟩; refine ⟨_, rfl, ?_⟩; have n0_ := Aside0.mk (Kd.S_elder' (by (with_reducible repeat (first | apply Kd.S_alloc | apply Kd.S_drewN | apply Kd.S_drew)); exact HO_1.out) (Kd.S_base ho0) hb); have n1_ := Aside0.mk (Kd.S_lower (Kd.S_new' ho0 (Kd.S_lt (by (with_reducible repeat (first | apply Kd.S_alloc | apply Kd.S_drewN | apply Kd.S_drew)); exact HO_1.out))) (below_size qB)); have n2_ := bst hb; clear HO_1; clear HB; have HO_1 := n0_; have HO432 := n1_; have HB := n2_; clear n0_ n1_ n2_; (try clear hb); (try clear ho0); obtain ⟨Ao22, co22, eo22⟩ := Kd.S_slice HO432.out; subst eo22; have p435 : 0 ≤ (1 : Int) := (by omega); have q435 : 1 < (t430.length : Int) := qD; obtain ⟨ad435, A435_3, c435_3, e435, hx435_0, hx435_1, hx435_2, hx435_3, hl435_3, hi435_3⟩ := at_T43 (Kd.S_reads' HO432.out).2.2 1 p435 q435; cases e435; obtain ⟨ce435, hce435, hMe435, hcc435⟩ := Kd.S_get HO432.out z43 1 p435 (by first | exact q435 | exact qD | (have e_ := (Kd.S_reads' HO432.out).1; omega)); obtain ⟨ve435_3, rfl, ge435_3⟩ := k43_openM hMe435; have hv435_3 := hcc435 3 _ rfl; rw [add_field _ _ 3 (by omega)] at hv435_3; replace hv435_3 := Option.some.inj (hv435_3.symm.trans hx435_3); rw [hv435_3] at ge435_3; have HL435_3 := Aside0.mk (show Kd.R k45 45 _ _ _ _ ((rd_T43 t430 1).f3) from ge435_3); clear hv435_3 ge435_3; clear hcc435 hce435; (try simp only [show (1 : Int).toNat = 1 from rfl, Nat.reduceMul, Nat.reduceEqDiff, Go.Addr.add, ↓reduceIte] at hx435_0); (try simp only [show (1 : Int).toNat = 1 from rfl, Nat.reduceMul, Nat.reduceEqDiff, Go.Addr.add, ↓reduceIte] at hx435_1); (try simp only [show (1 : Int).toNat = 1 from rfl, Nat.reduceMul, Nat.reduceEqDiff, Go.Addr.add, ↓reduceIte] at hx435_2); (try simp only [show (1 : Int).toNat = 1 from rfl, Nat.reduceMul, Nat.reduceEqDiff, Go.Addr.add, ↓reduceIte] at hx435_3); have qi435 : (1 < t430.length) = True := eq_true (by omega); (try rw [show ((1 : Int)).toNat = 1 from rfl] at hx435_0); (try rw [show 1 * 4 = 4 from rfl] at hx435_0); (try rw [show ((1 : Int)).toNat = 1 from rfl] at hx435_1); (try rw [show 1 * 4 = 4 from rfl] at hx435_1); (try rw [show ((1 : Int)).toNat = 1 from rfl] at hx435_2); (try rw [show 1 * 4 = 4 from rfl] at hx435_2); (try rw [show ((1 : Int)).toNat = 1 from rfl] at hx435_3); (try rw [show 1 * 4 = 4 from rfl] at hx435_3); have HR435_3 := Aside0.mk hi435_3; have HC435_3 := Aside0.mk hl435_3; clear hi435_3 hl435_3; replace p435 := eq_true p435; replace q435 := eq_true q435; have p436 : 0 ≤ (0 : Int) := (by omega); have q436 : 0 < (t430.length : Int) := qD; obtain ⟨ad436, A436_3, c436_3, e436, hx436_0, hx436_1, hx436_2, hx436_3, hl436_3, hi436_3⟩ := at_T43 (Kd.S_reads' HO432.out).2.2 0 p436 q436; obtain rfl : ad435 = ad436 := (by injection e436); obtain ⟨ce436, hce436, hMe436, hcc436⟩ := Kd.S_get HO432.out z43 0 p436 (by first | exact q436 | exact qD | (have e_ := (Kd.S_reads' HO432.out).1; omega)); obtain ⟨ve436_3, rfl, ge436_3⟩ := k43_openM hMe436; have hv436_3 := hcc436 3 _ rfl; rw [add_field _ _ 3 (by omega)] at hv436_3; replace hv436_3 := Option.some.inj (hv436_3.symm.trans hx436_3); rw [hv436_3] at ge436_3; have HL436_3 := Aside0.mk (show Kd.R k45 45 _ _ _ _ ((rd_T43 t430 0).f3) from ge436_3); clear hv436_3 ge436_3; clear hcc436 hce436; have qi436 : (0 < t430.length) = True := eq_true (by omega); (try rw [show ((0 : Int)).toNat = 0 from rfl] at hx436_0); (try rw [show 0 * 4 = 0 from rfl] at hx436_0); (try rw [Addr.add_zero'] at hx436_0); (try rw [show ((0 : Int)).toNat = 0 from rfl] at hx436_1); (try rw [show 0 * 4 = 0 from rfl] at hx436_1); (try rw [Addr.add_zero'] at hx436_1); (try rw [show ((0 : Int)).toNat = 0 from rfl] at hx436_2); (try rw [show 0 * 4 = 0 from rfl] at hx436_2); (try rw [Addr.add_zero'] at hx436_2); (try rw [show ((0 : Int)).toNat = 0 from rfl] at hx436_3); (try rw [show 0 * 4 = 0 from rfl] at hx436_3); (try rw [Addr.add_zero'] at hx436_3); have HR436_3 := Aside0.mk hi436_3; have HC436_3 := Aside0.mk hl436_3; clear hi436_3 hl436_3; replace p436 := eq_true p436; replace q436 := eq_true q436))
           go_ret
           exact ⟨qR, qB⟩
         ·rw [if_neg c13] at H
          exact absurd H (by simp)
        ·rw [if_neg c12] at H
         have c12b0 := beq_eq_false_iff_ne.mpr c12
         have c12b1 := bne_iff_ne.mpr c12
         obtain rfl := Option.some.inj H
         obtain ⟨Ao23, co23, eo23⟩ := Kd.S_slice HO_1.out
         subst eo23
         go_wp2_with (first | ((with_reducible refine gc 41 rfl ?_); refine gl (some 17) #[.slice Ao23 x1_1.length co23, .int .i64 0, .int .i64 1, .agg #[.int .i64 0, .int .i64 1, .string (⟨#[101]⟩ : ByteArray), .int .i64 0]] Tryd.func41 ?_; (with_reducible refine (tree_Tree_Put.calls k1 _ _ x1_1 0 1 0 1 (⟨#[101]⟩ : ByteArray) 0 t430 t433 t434 _ ?side1 ?side2 ?side3 A7.out).mono ?_); (case side1 => repeat (first | exact (Kd.S_reads' HO_1.out).2.2 | (with_reducible refine Kd.C_alloc ?_ _) | (with_reducible refine Kd.C_drewN ?_ _) | (with_reducible refine Kd.C_drew ?_))); (case side2 => exact (Kd.S_reads' HO_1.out).2.1); (case side3 => exact Laid.below HLD.out qB); rintro e w24 ⟨v431, rfl, ho0, hb⟩; refine ⟨_, rfl, ?_⟩; have n0_ := Aside0.mk (Kd.S_elder' (by (with_reducible repeat (first | apply Kd.S_alloc | apply Kd.S_drewN | apply Kd.S_drew)); exact HO_1.out) (Kd.S_base ho0) hb); have n1_ := Aside0.mk (Kd.S_lower (Kd.S_new' ho0 (Kd.S_lt (by (with_reducible repeat (first | apply Kd.S_alloc | apply Kd.S_drewN | apply Kd.S_drew)); exact HO_1.out))) (below_size qB)); have n2_ := bst hb; clear HO_1; clear HB; have HO_1 := n0_; have HO432 := n1_; have HB := n2_; clear n0_ n1_ n2_; (try clear hb); (try clear ho0); obtain ⟨Ao25, co25, eo25⟩ := Kd.S_slice HO432.out; subst eo25; have p435 : 0 ≤ (1 : Int) := (by omega); have q435 : 1 < (t430.length : Int) := qD; obtain ⟨ad435, A435_3, c435_3, e435, hx435_0, hx435_1, hx435_2, hx435_3, hl435_3, hi435_3⟩ := at_T43 (Kd.S_reads' HO432.out).2.2 1 p435 q435; cases e435; obtain ⟨ce435, hce435, hMe435, hcc435⟩ := Kd.S_get HO432.out z43 1 p435 (by first | exact q435 | exact qD | (have e_ := (Kd.S_reads' HO432.out).1; omega)); obtain ⟨ve435_3, rfl, ge435_3⟩ := k43_openM hMe435; have hv435_3 := hcc435 3 _ rfl; rw [add_field _ _ 3 (by omega)] at hv435_3; replace hv435_3 := Option.some.inj (hv435_3.symm.trans hx435_3); rw [hv435_3] at ge435_3; have HL435_3 := Aside0.mk (show Kd.R k45 45 _ _ _ _ ((rd_T43 t430 1).f3) from ge435_3); clear hv435_3 ge435_3; clear hcc435 hce435; (try simp only [show (1 : Int).toNat = 1 from rfl, Nat.reduceMul, Nat.reduceEqDiff, Go.Addr.add, ↓reduceIte] at hx435_0); (try simp only [show (1 : Int).toNat = 1 from rfl, Nat.reduceMul, Nat.reduceEqDiff, Go.Addr.add, ↓reduceIte] at hx435_1); (try simp only [show (1 : Int).toNat = 1 from rfl, Nat.reduceMul, Nat.reduceEqDiff, Go.Addr.add, ↓reduceIte] at hx435_2); (try simp only [show (1 : Int).toNat = 1 from rfl, Nat.reduceMul, Nat.reduceEqDiff, Go.Addr.add, ↓reduceIte] at hx435_3); have qi435 : (1 < t430.length) = True := eq_true (by omega); (try rw [show ((1 : Int)).toNat = 1 from rfl] at hx435_0); (try rw [show 1 * 4 = 4 from rfl] at hx435_0); (try rw [show ((1 : Int)).toNat = 1 from rfl] at hx435_1); (try rw [show 1 * 4 = 4 from rfl] at hx435_1); (try rw [show ((1 : Int)).toNat = 1 from rfl] at hx435_2); (try rw [show 1 * 4 = 4 from rfl] at hx435_2); (try rw [show ((1 : Int)).toNat = 1 from rfl] at hx435_3); (try rw [show 1 * 4 = 4 from rfl] at hx435_3); have HR435_3 := Aside0.mk hi435_3; have HC435_3 := Aside0.mk hl435_3; clear hi435_3 hl435_3; replace p435 := eq_true p435; replace q435 := eq_true q435))
         go_ret
         exact ⟨qR, qB⟩
       ·rw [if_neg c11] at H
        exact absurd H (by simp)
      ·rw [if_neg c10] at H
       have c10b0 := beq_eq_false_iff_ne.mpr c10
       have c10b1 := bne_iff_ne.mpr c10
       obtain rfl := Option.some.inj H
       obtain ⟨Ao26, co26, eo26⟩ := Kd.S_slice HO_1.out
       subst eo26
       go_wp2_with (first | ((with_reducible refine gc 41 rfl ?_); refine gl (some 17) #[.slice Ao26 x1_1.length co26, .int .i64 0, .int .i64 1, .agg #[.int .i64 0, .int .i64 1, .string (⟨#[101]⟩ : ByteArray), .int .i64 0]] Tryd.func41 ?_; (with_reducible refine (tree_Tree_Put.calls k1 _ _ x1_1 0 1 0 1 (⟨#[101]⟩ : ByteArray) 0 t430 t433 t434 _ ?side1 ?side2 ?side3 A7.out).mono ?_); (case side1 => repeat (first | exact (Kd.S_reads' HO_1.out).2.2 | (with_reducible refine Kd.C_alloc ?_ _) | (with_reducible refine Kd.C_drewN ?_ _) | (with_reducible refine Kd.C_drew ?_))); (case side2 => exact (Kd.S_reads' HO_1.out).2.1); (case side3 => exact Laid.below HLD.out qB); rintro e w27 ⟨v431, rfl, ho0, hb⟩; refine ⟨_, rfl, ?_⟩; have n0_ := Aside0.mk (Kd.S_elder' (by (with_reducible repeat (first | apply Kd.S_alloc | apply Kd.S_drewN | apply Kd.S_drew)); exact HO_1.out) (Kd.S_base ho0) hb); have n1_ := Aside0.mk (Kd.S_lower (Kd.S_new' ho0 (Kd.S_lt (by (with_reducible repeat (first | apply Kd.S_alloc | apply Kd.S_drewN | apply Kd.S_drew)); exact HO_1.out))) (below_size qB)); have n2_ := bst hb; clear HO_1; clear HB; have HO_1 := n0_; have HO432 := n1_; have HB := n2_; clear n0_ n1_ n2_; (try clear hb); (try clear ho0); obtain ⟨Ao28, co28, eo28⟩ := Kd.S_slice HO432.out; subst eo28))
       go_ret
       exact ⟨qR, qB⟩
     ·rw [if_neg c9] at H
      have c9b0 := beq_eq_false_iff_ne.mpr c9
      have c9b1 := bne_iff_ne.mpr c9
      obtain rfl := Option.some.inj H
      obtain ⟨Ao29, co29, eo29⟩ := Kd.S_slice HO_1.out
      subst eo29
      go_wp2_with (first | ((with_reducible refine gc 41 rfl ?_); refine gl (some 17) #[.slice Ao29 x1_1.length co29, .int .i64 0, .int .i64 1, .agg #[.int .i64 0, .int .i64 1, .string (⟨#[101]⟩ : ByteArray), .int .i64 0]] Tryd.func41 ?_; (with_reducible refine (tree_Tree_Put.calls k1 _ _ x1_1 0 1 0 1 (⟨#[101]⟩ : ByteArray) 0 t430 t433 t434 _ ?side1 ?side2 ?side3 A7.out).mono ?_); (case side1 => repeat (first | exact (Kd.S_reads' HO_1.out).2.2 | (with_reducible refine Kd.C_alloc ?_ _) | (with_reducible refine Kd.C_drewN ?_ _) | (with_reducible refine Kd.C_drew ?_))); (case side2 => exact (Kd.S_reads' HO_1.out).2.1); (case side3 => exact Laid.below HLD.out qB); rintro e w30 ⟨v431, rfl, ho0, hb⟩; refine ⟨_, rfl, ?_⟩; have n0_ := Aside0.mk (Kd.S_elder' (by (with_reducible repeat (first | apply Kd.S_alloc | apply Kd.S_drewN | apply Kd.S_drew)); exact HO_1.out) (Kd.S_base ho0) hb); have n1_ := Aside0.mk (Kd.S_lower (Kd.S_new' ho0 (Kd.S_lt (by (with_reducible repeat (first | apply Kd.S_alloc | apply Kd.S_drewN | apply Kd.S_drew)); exact HO_1.out))) (below_size qB)); have n2_ := bst hb; clear HO_1; clear HB; have HO_1 := n0_; have HO432 := n1_; have HB := n2_; clear n0_ n1_ n2_; (try clear hb); (try clear ho0)))
      go_ret
      exact ⟨qR, qB⟩
    ·rw [if_neg c8] at H
     have c8b0 := beq_eq_false_iff_ne.mpr c8
     have c8b1 := bne_iff_ne.mpr c8
     obtain rfl := Option.some.inj H
     obtain ⟨Ao31, co31, eo31⟩ := Kd.S_slice HO_1.out
     subst eo31
     go_wp2_with (first | ((with_reducible refine gc 41 rfl ?_); refine gl (some 17) #[.slice Ao31 x1_1.length co31, .int .i64 0, .int .i64 1, .agg #[.int .i64 0, .int .i64 1, .string (⟨#[101]⟩ : ByteArray), .int .i64 0]] Tryd.func41 ?_; (with_reducible refine (tree_Tree_Put.calls k1 _ _ x1_1 0 1 0 1 (⟨#[101]⟩ : ByteArray) 0 t430 t433 t434 _ ?side1 ?side2 ?side3 A7.out).mono ?_); (case side1 => repeat (first | exact (Kd.S_reads' HO_1.out).2.2 | (with_reducible refine Kd.C_alloc ?_ _) | (with_reducible refine Kd.C_drewN ?_ _) | (with_reducible refine Kd.C_drew ?_))); (case side2 => exact (Kd.S_reads' HO_1.out).2.1); (case side3 => exact Laid.below HLD.out qB); rintro e w32 ⟨v431, rfl, ho0, hb⟩; refine ⟨_, rfl, ?_⟩; have n0_ := Aside0.mk (Kd.S_elder' (by (with_reducible repeat (first | apply Kd.S_alloc | apply Kd.S_drewN | apply Kd.S_drew)); exact HO_1.out) (Kd.S_base ho0) hb); have n1_ := Aside0.mk (Kd.S_lower (Kd.S_new' ho0 (Kd.S_lt (by (with_reducible repeat (first | apply Kd.S_alloc | apply Kd.S_drewN | apply Kd.S_drew)); exact HO_1.out))) (below_size qB)); have n2_ := bst hb; clear HO_1; clear HB; have HO_1 := n0_; have HO432 := n1_; have HB := n2_; clear n0_ n1_ n2_; (try clear hb); (try clear ho0)))
     go_ret
     exact ⟨qR, qB⟩
end Go.Proofs.YtbngfhlciebeeaaDoor.L
