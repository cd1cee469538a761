/- Printed and hand-written steps towards the row (TokJoins), those that it reaches. -/
import Derived.Test.YtbngfhlciebeeaaDoorTokJoinsLx0
import Derived.Test.YtbngfhlciebeeaaDoorTokJoinsLxeq32
import Derived.Test.YtbngfhlciebeeaaDoorTokJoinsGLex
namespace Go.Proofs.YtbngfhlciebeeaaDoor.L
open Go.RowKit Go.Proofs.YtbngfhlciebeeaaDoorW.PrintWords Go.Proofs.YtbngfhlciebeeaaDoorW.PrintLast Go.Proofs.YtbngfhlciebeeaaDoorW.PrintMore
attribute [local go_sem] max2_int min2_int max_two min_two max_three min_three max_four min_four   -- for this text's walks alone
set_option linter.unusedVariables false
set_option linter.unusedSimpArgs false
attribute [local go_sem high] eqA32
def whirligiglaw02_anchor.f (k : Nat)  : Option (Bool) := (tok_Lex.f k (⟨#[120, 49, 60, 61, 97, 46, 98]⟩ : ByteArray)).bind fun bt156 => (if bt156.2.1 = 0 then (if bt156.2.2 = 0 then (if (bt156.1.length : Int) = 3 then (if 0 < (bt156.1.length : Int) then (if (((rd_T32 bt156.1 0).f0) == 1 && ((((rd_T32 bt156.1 0).f1).toList) == ([120, 49] : List UInt8) && (((rd_T32 bt156.1 0).f2) == 0 && (((rd_T32 bt156.1 0).f3) == 0)))) = true then (if 1 < (bt156.1.length : Int) then (if (((rd_T32 bt156.1 1).f0) == 5 && ((((rd_T32 bt156.1 1).f1).toList) == ([60, 61] : List UInt8) && (((rd_T32 bt156.1 1).f2) == 0 && (((rd_T32 bt156.1 1).f3) == 2)))) = true then (if 2 < (bt156.1.length : Int) then (some (((rd_T32 bt156.1 2).f0) == 2 && ((((rd_T32 bt156.1 2).f1).toList) == ([97, 46, 98] : List UInt8) && (((rd_T32 bt156.1 2).f2) == 0 && (((rd_T32 bt156.1 2).f3) == 4))))) else (none)) else (some false)) else (none)) else (some false)) else (none)) else (some false)) else (some false)) else (some false))
theorem whirligiglaw02_anchor.mono : ∀ k, LeO (whirligiglaw02_anchor.f k ) (whirligiglaw02_anchor.f (k + 1) ) := by
  intro  k
  unfold whirligiglaw02_anchor.f
  repeat' first
      | (with_reducible exact tok_Lex.mono _ _)
      | (with_reducible exact LeO.refl _)
      | (with_reducible exact LeO.none _)
      | (with_reducible refine LeO.ite ?_ ?_)
      | (with_reducible refine LeO.bind ?_ (fun _ => ?_))
      | exact tok_Lex.mono _ _
      | exact LeO.none _
      | refine LeO.ite ?_ ?_
      | refine LeO.bind ?_ (fun _ => ?_)
set_option maxHeartbeats 8000000 in
set_option maxRecDepth 100000 in
theorem whirligiglaw02_anchor.calls (k : Nat)  (r : Bool) (w : World) (hL : Laid w) (h : whirligiglaw02_anchor.f k  = some r) :
    Calls Tryd.prog 19 #[] w fun e w' => e = .returned (.bool r) ∧ Below w.heap.size w w' := by
  have hu32 := Tryd.underlying32
  have HB := Aside0.mk (Below.refl w.heap.size w)
  have HLD := Aside0.mk hL
  clear hL
  have H : ((tok_Lex.f k (⟨#[120, 49, 60, 61, 97, 46, 98]⟩ : ByteArray)).bind fun bt156 => (if bt156.2.1 = 0 then (if bt156.2.2 = 0 then (if (bt156.1.length : Int) = 3 then (if 0 < (bt156.1.length : Int) then (if (((rd_T32 bt156.1 0).f0) == 1 && ((((rd_T32 bt156.1 0).f1).toList) == ([120, 49] : List UInt8) && (((rd_T32 bt156.1 0).f2) == 0 && (((rd_T32 bt156.1 0).f3) == 0)))) = true then (if 1 < (bt156.1.length : Int) then (if (((rd_T32 bt156.1 1).f0) == 5 && ((((rd_T32 bt156.1 1).f1).toList) == ([60, 61] : List UInt8) && (((rd_T32 bt156.1 1).f2) == 0 && (((rd_T32 bt156.1 1).f3) == 2)))) = true then (if 2 < (bt156.1.length : Int) then (some (((rd_T32 bt156.1 2).f0) == 2 && ((((rd_T32 bt156.1 2).f1).toList) == ([97, 46, 98] : List UInt8) && (((rd_T32 bt156.1 2).f2) == 0 && (((rd_T32 bt156.1 2).f3) == 4))))) else (none)) else (some false)) else (none)) else (some false)) else (none)) else (some false)) else (some false)) else (some false))) = some r := h
  clear h
  replace H := Option.bind_eq_some_iff.mp H
  obtain ⟨⟨t156, t157, t158⟩, A10, H⟩ := H
  replace H : (if t157 = 0 then (if t158 = 0 then (if (t156.length : Int) = 3 then (if 0 < (t156.length : Int) then (if (((rd_T32 t156 0).f0) == 1 && ((((rd_T32 t156 0).f1).toList) == ([120, 49] : List UInt8) && (((rd_T32 t156 0).f2) == 0 && (((rd_T32 t156 0).f3) == 0)))) = true then (if 1 < (t156.length : Int) then (if (((rd_T32 t156 1).f0) == 5 && ((((rd_T32 t156 1).f1).toList) == ([60, 61] : List UInt8) && (((rd_T32 t156 1).f2) == 0 && (((rd_T32 t156 1).f3) == 2)))) = true then (if 2 < (t156.length : Int) then (some (((rd_T32 t156 2).f0) == 2 && ((((rd_T32 t156 2).f1).toList) == ([97, 46, 98] : List UInt8) && (((rd_T32 t156 2).f2) == 0 && (((rd_T32 t156 2).f3) == 4))))) else (none)) else (some false)) else (none)) else (some false)) else (none)) else (some false)) else (some false)) else (some false)) = some r := H
  have A1 := Aside0.mk A10
  clear A10
  by_cases c2 : t157 = 0
  · rw [if_pos c2] at H
    have c2b0 : (t157 == 0) = true := beq_iff_eq.mpr c2
    have c2b1 : (t157 != 0) = false := bne_eq_false_iff_eq.mpr c2
    clear c2
    by_cases c3 : t158 = 0
    · rw [if_pos c3] at H
      have c3b0 : (t158 == 0) = true := beq_iff_eq.mpr c3
      have c3b1 : (t158 != 0) = false := bne_eq_false_iff_eq.mpr c3
      clear c3
      by_cases c4 : (t156.length : Int) = 3
      · rw [if_pos c4] at H
        have c4b0 : ((t156.length : Int) == 3) = true := beq_iff_eq.mpr c4
        have c4b1 : ((t156.length : Int) != 3) = false := bne_eq_false_iff_eq.mpr c4
        clear c4
        by_cases c5 : 0 < (t156.length : Int)
        · rw [if_pos c5] at H
          have c5b0 : decide (0 < (t156.length : Int)) = true := decide_eq_true c5
          have c5b1 : decide (0 < t156.length) = true := decide_eq_true (by omega)
          clear c5
          by_cases c6 : (((rd_T32 t156 0).f0) == 1 && ((((rd_T32 t156 0).f1).toList) == ([120, 49] : List UInt8) && (((rd_T32 t156 0).f2) == 0 && (((rd_T32 t156 0).f3) == 0)))) = true
          · rw [if_pos c6] at H
            have c6b0 : (((rd_T32 t156 0).f0) == 1 && ((((rd_T32 t156 0).f1).toList) == ([120, 49] : List UInt8) && (((rd_T32 t156 0).f2) == 0 && (((rd_T32 t156 0).f3) == 0)))) = true := c6
            (try (have c6b1 : decide (((rd_T32 t156 0).f0) = 1 && ((((rd_T32 t156 0).f1).toList) == ([120, 49] : List UInt8) && (((rd_T32 t156 0).f2) == 0 && (((rd_T32 t156 0).f3) == 0)))) = true := by simpa using c6))
            (try (have c6b2 : (((rd_T32 t156 0).f0) == 1 && ((((rd_T32 t156 0).f1).toList) == ([120, 49] : List UInt8) && (((rd_T32 t156 0).f2) == 0 && (((rd_T32 t156 0).f3) == 0)))) = true := by simpa using c6))
            clear c6
            by_cases c7 : 1 < (t156.length : Int)
            · rw [if_pos c7] at H
              have c7b0 : decide (1 < (t156.length : Int)) = true := decide_eq_true c7
              have c7b1 : decide (1 < t156.length) = true := decide_eq_true (by omega)
              clear c7
              by_cases c8 : (((rd_T32 t156 1).f0) == 5 && ((((rd_T32 t156 1).f1).toList) == ([60, 61] : List UInt8) && (((rd_T32 t156 1).f2) == 0 && (((rd_T32 t156 1).f3) == 2)))) = true
              · rw [if_pos c8] at H
                have c8b0 : (((rd_T32 t156 1).f0) == 5 && ((((rd_T32 t156 1).f1).toList) == ([60, 61] : List UInt8) && (((rd_T32 t156 1).f2) == 0 && (((rd_T32 t156 1).f3) == 2)))) = true := c8
                (try (have c8b1 : decide (((rd_T32 t156 1).f0) = 5 && ((((rd_T32 t156 1).f1).toList) == ([60, 61] : List UInt8) && (((rd_T32 t156 1).f2) == 0 && (((rd_T32 t156 1).f3) == 2)))) = true := by simpa using c8))
                (try (have c8b2 : (((rd_T32 t156 1).f0) == 5 && ((((rd_T32 t156 1).f1).toList) == ([60, 61] : List UInt8) && (((rd_T32 t156 1).f2) == 0 && (((rd_T32 t156 1).f3) == 2)))) = true := by simpa using c8))
                clear c8
                by_cases c9 : 2 < (t156.length : Int)
                · rw [if_pos c9] at H
                  have c9b0 : decide (2 < (t156.length : Int)) = true := decide_eq_true c9
                  have c9b1 : decide (2 < t156.length) = true := decide_eq_true (by omega)
                  clear c9
                  obtain rfl := Option.some.inj H
                  go_enter Tryd.func19, Tryd.ntmps19
                  go_wp2_with (first | ((with_reducible refine gate_callee (f := 20) rfl ?_); refine goesL_ (some 5) rfl rfl Tryd.func20 (by kernel_rfl) rfl #[.string (⟨#[120, 49, 60, 61, 97, 46, 98]⟩ : ByteArray)] rfl (by (try simp only [List.map_toArray, List.map_cons, List.map_nil]); first | done | rfl | (simp only [List.length_drop, List.length_take]; rfl)) ?_; (with_reducible refine (tok_Lex.calls k (⟨#[120, 49, 60, 61, 97, 46, 98]⟩ : ByteArray) t156 t157 t158 _ ?side1 A1.out).mono ?_); (case side1 => exact Laid.below HLD.out (by repeat (first | (with_reducible first | exact HB.out | apply below_alloc | apply pw_below_drewN | apply below_drew1) | exact HB.out))); rintro e w10 ⟨v159, rfl, ho0, hb⟩; refine ⟨_, rfl, ?_⟩; have n0_ := Aside0.mk (Kd.R_lower ho0 (below_size (by repeat (first | (with_reducible first | exact HB.out | apply below_alloc | apply pw_below_drewN | apply below_drew1) | exact HB.out)))); have n1_ := Aside0.mk (below_step (by repeat (first | (with_reducible first | exact HB.out | apply below_alloc | apply pw_below_drewN | apply below_drew1) | exact HB.out)) hb); clear HB; have HO160 := n0_; have HB := n1_; clear n0_ n1_; (try clear hb); (try clear hb2); (try clear hk); (try clear hi); (try clear ho0); obtain ⟨Ao11, co11, eo11⟩ := Kd.R_slice HO160.out; subst eo11; have p161 : 0 ≤ (0 : Int) := (by omega); have q161 : 0 < (t156.length : Int) := of_decide_eq_true (by first | (with_reducible assumption) | assumption); obtain ⟨ad161, e161, hx161_0, hx161_1, hx161_2, hx161_3⟩ := at_T32 (Kd.R_reads' HO160.out).2.2 0 p161 q161; cases e161; have qi161 : (0 < t156.length) = True := eq_true (by omega); (try rw [show ((0 : Int)).toNat = 0 from rfl] at hx161_0); (try rw [show 0 * 4 = 0 from rfl] at hx161_0); (try rw [Addr.add_zero'] at hx161_0); (try rw [show ((0 : Int)).toNat = 0 from rfl] at hx161_1); (try rw [show 0 * 4 = 0 from rfl] at hx161_1); (try rw [Addr.add_zero'] at hx161_1); (try rw [show ((0 : Int)).toNat = 0 from rfl] at hx161_2); (try rw [show 0 * 4 = 0 from rfl] at hx161_2); (try rw [Addr.add_zero'] at hx161_2); (try rw [show ((0 : Int)).toNat = 0 from rfl] at hx161_3); (try rw [show 0 * 4 = 0 from rfl] at hx161_3); (try rw [Addr.add_zero'] at hx161_3); replace p161 := eq_true p161; replace q161 := eq_true q161; have p162 : 0 ≤ (1 : Int) := (by omega); have q162 : 1 < (t156.length : Int) := of_decide_eq_true (by first | (with_reducible assumption) | assumption); obtain ⟨ad162, e162, hx162_0, hx162_1, hx162_2, hx162_3⟩ := at_T32 (Kd.R_reads' HO160.out).2.2 1 p162 q162; obtain rfl : ad161 = ad162 := (by injection e162); (try simp only [show (1 : Int).toNat = 1 from rfl, Nat.reduceMul, Nat.reduceEqDiff, Go.Addr.add, ↓reduceIte] at hx162_0); (try simp only [show (1 : Int).toNat = 1 from rfl, Nat.reduceMul, Nat.reduceEqDiff, Go.Addr.add, ↓reduceIte] at hx162_1); (try simp only [show (1 : Int).toNat = 1 from rfl, Nat.reduceMul, Nat.reduceEqDiff, Go.Addr.add, ↓reduceIte] at hx162_2); (try simp only [show (1 : Int).toNat = 1 from rfl, Nat.reduceMul, Nat.reduceEqDiff, Go.Addr.add, ↓reduceIte] at hx162_3); have qi162 : (1 < t156.length) = True := eq_true (by omega); (try rw [show ((1 : Int)).toNat = 1 from rfl] at hx162_0); (try rw [show 1 * 4 = 4 from rfl] at hx162_0); (try rw [show ((1 : Int)).toNat = 1 from rfl] at hx162_1); (try rw [show 1 * 4 = 4 from rfl] at hx162_1); (try rw [show ((1 : Int)).toNat = 1 from rfl] at hx162_2); (try rw [show 1 * 4 = 4 from rfl] at hx162_2); (try rw [show ((1 : Int)).toNat = 1 from rfl] at hx162_3); (try rw [show 1 * 4 = 4 from rfl] at hx162_3); replace p162 := eq_true p162; replace q162 := eq_true q162; have p163 : 0 ≤ (2 : Int) := (by omega); have q163 : 2 < (t156.length : Int) := of_decide_eq_true (by first | (with_reducible assumption) | assumption); obtain ⟨ad163, e163, hx163_0, hx163_1, hx163_2, hx163_3⟩ := at_T32 (Kd.R_reads' HO160.out).2.2 2 p163 q163; obtain rfl : ad161 = ad163 := (by injection e163); (try simp only [show (2 : Int).toNat = 2 from rfl, Nat.reduceMul, Nat.reduceEqDiff, Go.Addr.add, ↓reduceIte] at hx163_0); (try simp only [show (2 : Int).toNat = 2 from rfl, Nat.reduceMul, Nat.reduceEqDiff, Go.Addr.add, ↓reduceIte] at hx163_1); (try simp only [show (2 : Int).toNat = 2 from rfl, Nat.reduceMul, Nat.reduceEqDiff, Go.Addr.add, ↓reduceIte] at hx163_2); (try simp only [show (2 : Int).toNat = 2 from rfl, Nat.reduceMul, Nat.reduceEqDiff, Go.Addr.add, ↓reduceIte] at hx163_3); have qi163 : (2 < t156.length) = True := eq_true (by omega); (try rw [show ((2 : Int)).toNat = 2 from rfl] at hx163_0); (try rw [show 2 * 4 = 8 from rfl] at hx163_0); (try rw [show ((2 : Int)).toNat = 2 from rfl] at hx163_1); (try rw [show 2 * 4 = 8 from rfl] at hx163_1); (try rw [show ((2 : Int)).toNat = 2 from rfl] at hx163_2); (try rw [show 2 * 4 = 8 from rfl] at hx163_2); (try rw [show ((2 : Int)).toNat = 2 from rfl] at hx163_3); (try rw [show 2 * 4 = 8 from rfl] at hx163_3); replace p163 := eq_true p163; replace q163 := eq_true q163))
                  go_ret
                  exact ⟨by first | rfl | (simp [errW_none, errW_some] <;> rfl) | (simp [*, errW_none, errW_some] <;> rfl), by repeat (first | (with_reducible first | exact HB.out | apply below_alloc | apply pw_below_drewN | apply below_drew1) | exact HB.out)⟩
                · rw [if_neg c9] at H
                  exact absurd H (by simp)
              · rw [if_neg c8] at H
                have c8b0 : (((rd_T32 t156 1).f0) == 5 && ((((rd_T32 t156 1).f1).toList) == ([60, 61] : List UInt8) && (((rd_T32 t156 1).f2) == 0 && (((rd_T32 t156 1).f3) == 2)))) = false := by simpa using c8
                (try (have c8b1 : decide (((rd_T32 t156 1).f0) = 5 && ((((rd_T32 t156 1).f1).toList) == ([60, 61] : List UInt8) && (((rd_T32 t156 1).f2) == 0 && (((rd_T32 t156 1).f3) == 2)))) = false := by simpa using c8))
                (try (have c8b2 : (((rd_T32 t156 1).f0) == 5 && ((((rd_T32 t156 1).f1).toList) == ([60, 61] : List UInt8) && (((rd_T32 t156 1).f2) == 0 && (((rd_T32 t156 1).f3) == 2)))) = false := by simpa using c8))
                (try (have c8b3 : ¬ (((rd_T32 t156 1).f0) = 5 && ((((rd_T32 t156 1).f1).toList) == ([60, 61] : List UInt8) && (((rd_T32 t156 1).f2) == 0 && (((rd_T32 t156 1).f3) == 2)))) := by simpa using c8))
                clear c8
                obtain rfl := Option.some.inj H
                go_enter Tryd.func19, Tryd.ntmps19
                go_wp2_with (first | ((with_reducible refine gate_callee (f := 20) rfl ?_); refine goesL_ (some 5) rfl rfl Tryd.func20 (by kernel_rfl) rfl #[.string (⟨#[120, 49, 60, 61, 97, 46, 98]⟩ : ByteArray)] rfl (by (try simp only [List.map_toArray, List.map_cons, List.map_nil]); first | done | rfl | (simp only [List.length_drop, List.length_take]; rfl)) ?_; (with_reducible refine (tok_Lex.calls k (⟨#[120, 49, 60, 61, 97, 46, 98]⟩ : ByteArray) t156 t157 t158 _ ?side1 A1.out).mono ?_); (case side1 => exact Laid.below HLD.out (by repeat (first | (with_reducible first | exact HB.out | apply below_alloc | apply pw_below_drewN | apply below_drew1) | exact HB.out))); rintro e w12 ⟨v159, rfl, ho0, hb⟩; refine ⟨_, rfl, ?_⟩; have n0_ := Aside0.mk (Kd.R_lower ho0 (below_size (by repeat (first | (with_reducible first | exact HB.out | apply below_alloc | apply pw_below_drewN | apply below_drew1) | exact HB.out)))); have n1_ := Aside0.mk (below_step (by repeat (first | (with_reducible first | exact HB.out | apply below_alloc | apply pw_below_drewN | apply below_drew1) | exact HB.out)) hb); clear HB; have HO160 := n0_; have HB := n1_; clear n0_ n1_; (try clear hb); (try clear hb2); (try clear hk); (try clear hi); (try clear ho0); obtain ⟨Ao13, co13, eo13⟩ := Kd.R_slice HO160.out; subst eo13; have p161 : 0 ≤ (0 : Int) := (by omega); have q161 : 0 < (t156.length : Int) := of_decide_eq_true (by first | (with_reducible assumption) | assumption); obtain ⟨ad161, e161, hx161_0, hx161_1, hx161_2, hx161_3⟩ := at_T32 (Kd.R_reads' HO160.out).2.2 0 p161 q161; cases e161; have qi161 : (0 < t156.length) = True := eq_true (by omega); (try rw [show ((0 : Int)).toNat = 0 from rfl] at hx161_0); (try rw [show 0 * 4 = 0 from rfl] at hx161_0); (try rw [Addr.add_zero'] at hx161_0); (try rw [show ((0 : Int)).toNat = 0 from rfl] at hx161_1); (try rw [show 0 * 4 = 0 from rfl] at hx161_1); (try rw [Addr.add_zero'] at hx161_1); (try rw [show ((0 : Int)).toNat = 0 from rfl] at hx161_2); (try rw [show 0 * 4 = 0 from rfl] at hx161_2); (try rw [Addr.add_zero'] at hx161_2); (try rw [show ((0 : Int)).toNat = 0 from rfl] at hx161_3); (try rw [show 0 * 4 = 0 from rfl] at hx161_3); (try rw [Addr.add_zero'] at hx161_3); replace p161 := eq_true p161; replace q161 := eq_true q161; have p162 : 0 ≤ (1 : Int) := (by omega); have q162 : 1 < (t156.length : Int) := of_decide_eq_true (by first | (with_reducible assumption) | assumption); obtain ⟨ad162, e162, hx162_0, hx162_1, hx162_2, hx162_3⟩ := at_T32 (Kd.R_reads' HO160.out).2.2 1 p162 q162; obtain rfl : ad161 = ad162 := (by injection e162); (try simp only [show (1 : Int).toNat = 1 from rfl, Nat.reduceMul, Nat.reduceEqDiff, Go.Addr.add, ↓reduceIte] at hx162_0); (try simp only [show (1 : Int).toNat = 1 from rfl, Nat.reduceMul, Nat.reduceEqDiff, Go.Addr.add, ↓reduceIte] at hx162_1); (try simp only [show (1 : Int).toNat = 1 from rfl, Nat.reduceMul, Nat.reduceEqDiff, Go.Addr.add, ↓reduceIte] at hx162_2); (try simp only [show (1 : Int).toNat = 1 from rfl, Nat.reduceMul, Nat.reduceEqDiff, Go.Addr.add, ↓reduceIte] at hx162_3); have qi162 : (1 < t156.length) = True := eq_true (by omega); (try rw [show ((1 : Int)).toNat = 1 from rfl] at hx162_0); (try rw [show 1 * 4 = 4 from rfl] at hx162_0); (try rw [show ((1 : Int)).toNat = 1 from rfl] at hx162_1); (try rw [show 1 * 4 = 4 from rfl] at hx162_1); (try rw [show ((1 : Int)).toNat = 1 from rfl] at hx162_2); (try rw [show 1 * 4 = 4 from rfl] at hx162_2); (try rw [show ((1 : Int)).toNat = 1 from rfl] at hx162_3); (try rw [show 1 * 4 = 4 from rfl] at hx162_3); replace p162 := eq_true p162; replace q162 := eq_true q162))
                go_ret
                exact ⟨by first | rfl | (simp [errW_none, errW_some] <;> rfl) | (simp [*, errW_none, errW_some] <;> rfl), by repeat (first | (with_reducible first | exact HB.out | apply below_alloc | apply pw_below_drewN | apply below_drew1) | exact HB.out)⟩
            · rw [if_neg c7] at H
              exact absurd H (by simp)
          · rw [if_neg c6] at H
            have c6b0 : (((rd_T32 t156 0).f0) == 1 && ((((rd_T32 t156 0).f1).toList) == ([120, 49] : List UInt8) && (((rd_T32 t156 0).f2) == 0 && (((rd_T32 t156 0).f3) == 0)))) = false := by simpa using c6
            (try (have c6b1 : decide (((rd_T32 t156 0).f0) = 1 && ((((rd_T32 t156 0).f1).toList) == ([120, 49] : List UInt8) && (((rd_T32 t156 0).f2) == 0 && (((rd_T32 t156 0).f3) == 0)))) = false := by simpa using c6))
            (try (have c6b2 : (((rd_T32 t156 0).f0) == 1 && ((((rd_T32 t156 0).f1).toList) == ([120, 49] : List UInt8) && (((rd_T32 t156 0).f2) == 0 && (((rd_T32 t156 0).f3) == 0)))) = false := by simpa using c6))
            (try (have c6b3 : ¬ (((rd_T32 t156 0).f0) = 1 && ((((rd_T32 t156 0).f1).toList) == ([120, 49] : List UInt8) && (((rd_T32 t156 0).f2) == 0 && (((rd_T32 t156 0).f3) == 0)))) := by simpa using c6))
            clear c6
            obtain rfl := Option.some.inj H
            go_enter Tryd.func19, Tryd.ntmps19
            go_wp2_with (first | ((with_reducible refine gate_callee (f := 20) rfl ?_); refine goesL_ (some 5) rfl rfl Tryd.func20 (by kernel_rfl) rfl #[.string (⟨#[120, 49, 60, 61, 97, 46, 98]⟩ : ByteArray)] rfl (by (try simp only [List.map_toArray, List.map_cons, List.map_nil]); first | done | rfl | (simp only [List.length_drop, List.length_take]; rfl)) ?_; (with_reducible refine (tok_Lex.calls k (⟨#[120, 49, 60, 61, 97, 46, 98]⟩ : ByteArray) t156 t157 t158 _ ?side1 A1.out).mono ?_); (case side1 => exact Laid.below HLD.out (by repeat (first | (with_reducible first | exact HB.out | apply below_alloc | apply pw_below_drewN | apply below_drew1) | exact HB.out))); rintro e w14 ⟨v159, rfl, ho0, hb⟩; refine ⟨_, rfl, ?_⟩; have n0_ := Aside0.mk (Kd.R_lower ho0 (below_size (by repeat (first | (with_reducible first | exact HB.out | apply below_alloc | apply pw_below_drewN | apply below_drew1) | exact HB.out)))); have n1_ := Aside0.mk (below_step (by repeat (first | (with_reducible first | exact HB.out | apply below_alloc | apply pw_below_drewN | apply below_drew1) | exact HB.out)) hb); clear HB; have HO160 := n0_; have HB := n1_; clear n0_ n1_; (try clear hb); (try clear hb2); (try clear hk); (try clear hi); (try clear ho0); obtain ⟨Ao15, co15, eo15⟩ := Kd.R_slice HO160.out; subst eo15; have p161 : 0 ≤ (0 : Int) := (by omega); have q161 : 0 < (t156.length : Int) := of_decide_eq_true (by first | (with_reducible assumption) | assumption); obtain ⟨ad161, e161, hx161_0, hx161_1, hx161_2, hx161_3⟩ := at_T32 (Kd.R_reads' HO160.out).2.2 0 p161 q161; cases e161; have qi161 : (0 < t156.length) = True := eq_true (by omega); (try rw [show ((0 : Int)).toNat = 0 from rfl] at hx161_0); (try rw [show 0 * 4 = 0 from rfl] at hx161_0); (try rw [Addr.add_zero'] at hx161_0); (try rw [show ((0 : Int)).toNat = 0 from rfl] at hx161_1); (try rw [show 0 * 4 = 0 from rfl] at hx161_1); (try rw [Addr.add_zero'] at hx161_1); (try rw [show ((0 : Int)).toNat = 0 from rfl] at hx161_2); (try rw [show 0 * 4 = 0 from rfl] at hx161_2); (try rw [Addr.add_zero'] at hx161_2); (try rw [show ((0 : Int)).toNat = 0 from rfl] at hx161_3); (try rw [show 0 * 4 = 0 from rfl] at hx161_3); (try rw [Addr.add_zero'] at hx161_3); replace p161 := eq_true p161; replace q161 := eq_true q161))
            go_ret
            exact ⟨by first | rfl | (simp [errW_none, errW_some] <;> rfl) | (simp [*, errW_none, errW_some] <;> rfl), by repeat (first | (with_reducible first | exact HB.out | apply below_alloc | apply pw_below_drewN | apply below_drew1) | exact HB.out)⟩
        · rw [if_neg c5] at H
          exact absurd H (by simp)
      · rw [if_neg c4] at H
        have c4b0 : ((t156.length : Int) == 3) = false := beq_eq_false_iff_ne.mpr c4
        have c4b1 : ((t156.length : Int) != 3) = true := bne_iff_ne.mpr c4
        obtain rfl := Option.some.inj H
        go_enter Tryd.func19, Tryd.ntmps19
        go_wp2_with (first | ((with_reducible refine gate_callee (f := 20) rfl ?_); refine goesL_ (some 5) rfl rfl Tryd.func20 (by kernel_rfl) rfl #[.string (⟨#[120, 49, 60, 61, 97, 46, 98]⟩ : ByteArray)] rfl (by (try simp only [List.map_toArray, List.map_cons, List.map_nil]); first | done | rfl | (simp only [List.length_drop, List.length_take]; rfl)) ?_; (with_reducible refine (tok_Lex.calls k (⟨#[120, 49, 60, 61, 97, 46, 98]⟩ : ByteArray) t156 t157 t158 _ ?side1 A1.out).mono ?_); (case side1 => exact Laid.below HLD.out (by repeat (first | (with_reducible first | exact HB.out | apply below_alloc | apply pw_below_drewN | apply below_drew1) | exact HB.out))); rintro e w16 ⟨v159, rfl, ho0, hb⟩; refine ⟨_, rfl, ?_⟩; have n0_ := Aside0.mk (Kd.R_lower ho0 (below_size (by repeat (first | (with_reducible first | exact HB.out | apply below_alloc | apply pw_below_drewN | apply below_drew1) | exact HB.out)))); have n1_ := Aside0.mk (below_step (by repeat (first | (with_reducible first | exact HB.out | apply below_alloc | apply pw_below_drewN | apply below_drew1) | exact HB.out)) hb); clear HB; have HO160 := n0_; have HB := n1_; clear n0_ n1_; (try clear hb); (try clear hb2); (try clear hk); (try clear hi); (try clear ho0); obtain ⟨Ao17, co17, eo17⟩ := Kd.R_slice HO160.out; subst eo17))
        go_ret
        exact ⟨by first | rfl | (simp [errW_none, errW_some] <;> rfl) | (simp [*, errW_none, errW_some] <;> rfl), by repeat (first | (with_reducible first | exact HB.out | apply below_alloc | apply pw_below_drewN | apply below_drew1) | exact HB.out)⟩
    · rw [if_neg c3] at H
      have c3b0 : (t158 == 0) = false := beq_eq_false_iff_ne.mpr c3
      have c3b1 : (t158 != 0) = true := bne_iff_ne.mpr c3
      obtain rfl := Option.some.inj H
      go_enter Tryd.func19, Tryd.ntmps19
      go_wp2_with (first | ((with_reducible refine gate_callee (f := 20) rfl ?_); refine goesL_ (some 5) rfl rfl Tryd.func20 (by kernel_rfl) rfl #[.string (⟨#[120, 49, 60, 61, 97, 46, 98]⟩ : ByteArray)] rfl (by (try simp only [List.map_toArray, List.map_cons, List.map_nil]); first | done | rfl | (simp only [List.length_drop, List.length_take]; rfl)) ?_; (with_reducible refine (tok_Lex.calls k (⟨#[120, 49, 60, 61, 97, 46, 98]⟩ : ByteArray) t156 t157 t158 _ ?side1 A1.out).mono ?_); (case side1 => exact Laid.below HLD.out (by repeat (first | (with_reducible first | exact HB.out | apply below_alloc | apply pw_below_drewN | apply below_drew1) | exact HB.out))); rintro e w18 ⟨v159, rfl, ho0, hb⟩; refine ⟨_, rfl, ?_⟩; have n0_ := Aside0.mk (Kd.R_lower ho0 (below_size (by repeat (first | (with_reducible first | exact HB.out | apply below_alloc | apply pw_below_drewN | apply below_drew1) | exact HB.out)))); have n1_ := Aside0.mk (below_step (by repeat (first | (with_reducible first | exact HB.out | apply below_alloc | apply pw_below_drewN | apply below_drew1) | exact HB.out)) hb); clear HB; have HO160 := n0_; have HB := n1_; clear n0_ n1_; (try clear hb); (try clear hb2); (try clear hk); (try clear hi); (try clear ho0)))
      go_ret
      exact ⟨by first | rfl | (simp [errW_none, errW_some] <;> rfl) | (simp [*, errW_none, errW_some] <;> rfl), by repeat (first | (with_reducible first | exact HB.out | apply below_alloc | apply pw_below_drewN | apply below_drew1) | exact HB.out)⟩
  · rw [if_neg c2] at H
    have c2b0 : (t157 == 0) = false := beq_eq_false_iff_ne.mpr c2
    have c2b1 : (t157 != 0) = true := bne_iff_ne.mpr c2
    obtain rfl := Option.some.inj H
    go_enter Tryd.func19, Tryd.ntmps19
    go_wp2_with (first | ((with_reducible refine gate_callee (f := 20) rfl ?_); refine goesL_ (some 5) rfl rfl Tryd.func20 (by kernel_rfl) rfl #[.string (⟨#[120, 49, 60, 61, 97, 46, 98]⟩ : ByteArray)] rfl (by (try simp only [List.map_toArray, List.map_cons, List.map_nil]); first | done | rfl | (simp only [List.length_drop, List.length_take]; rfl)) ?_; (with_reducible refine (tok_Lex.calls k (⟨#[120, 49, 60, 61, 97, 46, 98]⟩ : ByteArray) t156 t157 t158 _ ?side1 A1.out).mono ?_); (case side1 => exact Laid.below HLD.out (by repeat (first | (with_reducible first | exact HB.out | apply below_alloc | apply pw_below_drewN | apply below_drew1) | exact HB.out))); rintro e w19 ⟨v159, rfl, ho0, hb⟩; refine ⟨_, rfl, ?_⟩; have n0_ := Aside0.mk (Kd.R_lower ho0 (below_size (by repeat (first | (with_reducible first | exact HB.out | apply below_alloc | apply pw_below_drewN | apply below_drew1) | exact HB.out)))); have n1_ := Aside0.mk (below_step (by repeat (first | (with_reducible first | exact HB.out | apply below_alloc | apply pw_below_drewN | apply below_drew1) | exact HB.out)) hb); clear HB; have HO160 := n0_; have HB := n1_; clear n0_ n1_; (try clear hb); (try clear hb2); (try clear hk); (try clear hi); (try clear ho0)))
    go_ret
    exact ⟨by first | rfl | (simp [errW_none, errW_some] <;> rfl) | (simp [*, errW_none, errW_some] <;> rfl), by repeat (first | (with_reducible first | exact HB.out | apply below_alloc | apply pw_below_drewN | apply below_drew1) | exact HB.out)⟩
def whirligigref02_letter.f (a0 : Int) : Option (Bool) := if a0 ≥ 97 then (some (decide (a0 ≤ 122))) else (some false)
set_option maxHeartbeats 8000000 in
set_option maxRecDepth 100000 in
theorem whirligigref02_letter.calls (a0 : Int) (r : Bool) (w : World) (h : whirligigref02_letter.f a0 = some r) :
    Calls Tryd.prog 108 #[.int .u8 a0] w fun e w' => e = .returned (.bool r) ∧ Drawn0 w w' := by
  have H : (if a0 ≥ 97 then (some (decide (a0 ≤ 122))) else (some false)) = some r := h
  clear h
  by_cases c2 : a0 ≥ 97
  · rw [if_pos c2] at H
    have c2b0 : decide (97 ≤ a0) = true := decide_eq_true c2
    clear c2
    obtain rfl := Option.some.inj H
    go_enter Tryd.func108, Tryd.ntmps108
    go_wp2
    go_ret
    exact ⟨by first | rfl | (simp; done) | (simp [*]; done), by repeat (first | exact Drawn0.refl _ | apply Drawn0.step)⟩
  · rw [if_neg c2] at H
    have c2b0 : decide (97 ≤ a0) = false := decide_eq_false c2
    clear c2
    obtain rfl := Option.some.inj H
    go_enter Tryd.func108, Tryd.ntmps108
    go_wp2
    go_ret
    exact ⟨by first | rfl | (simp; done) | (simp [*]; done), by repeat (first | exact Drawn0.refl _ | apply Drawn0.step)⟩
def whirligigref02_inner.f (a0 : Int) : Option (Bool) := (whirligigref02_letter.f a0).bind fun t164 => (if t164 = true then (some true) else (if a0 ≥ 48 then (if a0 ≤ 57 then (some true) else (some (a0 == 95))) else (some (a0 == 95))))
set_option maxHeartbeats 8000000 in
set_option maxRecDepth 100000 in
theorem whirligigref02_inner.calls (a0 : Int) (r : Bool) (w : World) (h : whirligigref02_inner.f a0 = some r) :
    Calls Tryd.prog 113 #[.int .u8 a0] w fun e w' => e = .returned (.bool r) ∧ Drawn0 w w' := by
  have H : ((whirligigref02_letter.f a0).bind fun t164 => (if t164 = true then (some true) else (if a0 ≥ 48 then (if a0 ≤ 57 then (some true) else (some (a0 == 95))) else (some (a0 == 95))))) = some r := h
  clear h
  replace H := Option.bind_eq_some_iff.mp H
  obtain ⟨t164, A20, H⟩ := H
  replace H : (if t164 = true then (some true) else (if a0 ≥ 48 then (if a0 ≤ 57 then (some true) else (some (a0 == 95))) else (some (a0 == 95)))) = some r := H
  have A2 := Aside0.mk A20
  clear A20
  by_cases c3 : t164 = true
  · subst c3
    have H1 : (some true) = some r := by rw [if_pos rfl] at H; exact H
    clear H
    have H := H1
    clear H1
    obtain rfl := Option.some.inj H
    go_enter Tryd.func113, Tryd.ntmps113
    go_wp2_with (first | ((with_reducible refine gate_callee (f := 108) rfl ?_); refine goesL_ (some 4) rfl rfl Tryd.func108 (by kernel_rfl) rfl #[.int .u8 a0] rfl (by (try simp only [List.map_toArray, List.map_cons, List.map_nil]); first | done | rfl | (simp only [List.length_drop, List.length_take]; rfl)) ?_; (with_reducible refine (whirligigref02_letter.calls a0 true _ A2.out).mono ?_); rintro e w' ⟨rfl, ⟨nd, rfl⟩⟩; refine ⟨_, rfl, ?_⟩))
    go_ret
    exact ⟨by first | rfl | (simp; done) | (simp [*]; done), by repeat (first | exact Drawn0.refl _ | apply Drawn0.step)⟩
  · replace c3 := Bool.eq_false_iff.mpr c3
    subst c3
    have H1 : (if a0 ≥ 48 then (if a0 ≤ 57 then (some true) else (some (a0 == 95))) else (some (a0 == 95))) = some r := by rw [if_neg (show ¬ (false = true) by decide)] at H; exact H
    clear H
    have H := H1
    clear H1
    by_cases c4 : a0 ≥ 48
    · rw [if_pos c4] at H
      have c4b0 : decide (48 ≤ a0) = true := decide_eq_true c4
      clear c4
      by_cases c5 : a0 ≤ 57
      · rw [if_pos c5] at H
        have c5b0 : decide (a0 ≤ 57) = true := decide_eq_true c5
        clear c5
        obtain rfl := Option.some.inj H
        go_enter Tryd.func113, Tryd.ntmps113
        go_wp2_with (first | ((with_reducible refine gate_callee (f := 108) rfl ?_); refine goesL_ (some 4) rfl rfl Tryd.func108 (by kernel_rfl) rfl #[.int .u8 a0] rfl (by (try simp only [List.map_toArray, List.map_cons, List.map_nil]); first | done | rfl | (simp only [List.length_drop, List.length_take]; rfl)) ?_; (with_reducible refine (whirligigref02_letter.calls a0 false _ A2.out).mono ?_); rintro e w' ⟨rfl, ⟨nd, rfl⟩⟩; refine ⟨_, rfl, ?_⟩))
        go_ret
        exact ⟨by first | rfl | (simp; done) | (simp [*]; done), by repeat (first | exact Drawn0.refl _ | apply Drawn0.step)⟩
      · rw [if_neg c5] at H
        have c5b0 : decide (a0 ≤ 57) = false := decide_eq_false c5
        clear c5
        obtain rfl := Option.some.inj H
        go_enter Tryd.func113, Tryd.ntmps113
        go_wp2_with (first | ((with_reducible refine gate_callee (f := 108) rfl ?_); refine goesL_ (some 4) rfl rfl Tryd.func108 (by kernel_rfl) rfl #[.int .u8 a0] rfl (by (try simp only [List.map_toArray, List.map_cons, List.map_nil]); first | done | rfl | (simp only [List.length_drop, List.length_take]; rfl)) ?_; (with_reducible refine (whirligigref02_letter.calls a0 false _ A2.out).mono ?_); rintro e w' ⟨rfl, ⟨nd, rfl⟩⟩; refine ⟨_, rfl, ?_⟩))
        go_ret
        exact ⟨by first | rfl | (simp; done) | (simp [*]; done), by repeat (first | exact Drawn0.refl _ | apply Drawn0.step)⟩
    · rw [if_neg c4] at H
      have c4b0 : decide (48 ≤ a0) = false := decide_eq_false c4
      clear c4
      obtain rfl := Option.some.inj H
      go_enter Tryd.func113, Tryd.ntmps113
      go_wp2_with (first | ((with_reducible refine gate_callee (f := 108) rfl ?_); refine goesL_ (some 4) rfl rfl Tryd.func108 (by kernel_rfl) rfl #[.int .u8 a0] rfl (by (try simp only [List.map_toArray, List.map_cons, List.map_nil]); first | done | rfl | (simp only [List.length_drop, List.length_take]; rfl)) ?_; (with_reducible refine (whirligigref02_letter.calls a0 false _ A2.out).mono ?_); rintro e w' ⟨rfl, ⟨nd, rfl⟩⟩; refine ⟨_, rfl, ?_⟩))
      go_ret
      exact ⟨by first | rfl | (simp; done) | (simp [*]; done), by repeat (first | exact Drawn0.refl _ | apply Drawn0.step)⟩
def whirligigref02_word.l0 : Nat → ByteArray → Int → Int → Option (Int)
  | 0, _, _, _ => none
  | k + 1, x0, x1, x5 => if (wrap64 (x1 + x5)) < (x0.size : Int) then (if 0 ≤ (wrap64 (x1 + x5)) then ((whirligigref02_inner.f (bt x0 (wrap64 (x1 + x5)))).bind fun t165 => (if t165 = true then (whirligigref02_word.l0 k x0 x1 (wrap64 (x5 + 1))) else (some x5))) else (none)) else (some x5)
def whirligigref02_word.f (k : Nat) (a0 : ByteArray) (a1 : Int) : Option (Int) := whirligigref02_word.l0 k a0 a1 0
theorem whirligigref02_word.mono_l : ∀ k, (∀ y0 y1 y2, LeO (whirligigref02_word.l0 k y0 y1 y2) (whirligigref02_word.l0 (k + 1) y0 y1 y2))
  | 0 => fun _ _ _ r h => by simp [whirligigref02_word.l0] at h
  | k + 1 => by
    have ih0 := whirligigref02_word.mono_l k
    · intro y0 y1 y2
      unfold whirligigref02_word.l0
      repeat' first
      | (with_reducible exact ih0 _ _ _)
      | (with_reducible exact LeO.refl _)
      | (with_reducible exact LeO.none _)
      | (with_reducible refine LeO.ite ?_ ?_)
      | (with_reducible refine LeO.bind ?_ (fun _ => ?_))
      | exact ih0 _ _ _
      | exact LeO.none _
      | refine LeO.ite ?_ ?_
      | refine LeO.bind ?_ (fun _ => ?_)
theorem whirligigref02_word.mono : ∀ a0 a1 k, LeO (whirligigref02_word.f k a0 a1) (whirligigref02_word.f (k + 1) a0 a1) := by
  intro a0 a1 k
  have ih0 := whirligigref02_word.mono_l k
  unfold whirligigref02_word.f
  repeat' first
      | (with_reducible exact ih0 _ _ _)
      | (with_reducible exact LeO.refl _)
      | (with_reducible exact LeO.none _)
      | (with_reducible refine LeO.ite ?_ ?_)
      | (with_reducible refine LeO.bind ?_ (fun _ => ?_))
      | exact ih0 _ _ _
      | exact LeO.none _
      | refine LeO.ite ?_ ?_
      | refine LeO.bind ?_ (fun _ => ?_)
set_option maxHeartbeats 8000000 in
set_option maxRecDepth 100000 in
theorem whirligigref02_word.calls (k : Nat) (a0 : ByteArray) (a1 : Int) (r : Int) (w : World) (h : whirligigref02_word.f k a0 a1 = some r) :
    Calls Tryd.prog 71 #[.string a0, .int .i64 a1] w fun e w' => e = .returned (.int .i64 r) ∧ Drawn0 w w' := by
  have H : (whirligigref02_word.l0 k a0 a1 0) = some r := h
  clear h
  have H' := Aside0.mk H
  clear H
  go_enter Tryd.func71, Tryd.ntmps71
  go_wp2
  go_loopg [5] k (fun kq v5 w' => ∃ (x5_1 : Int), v5 = .int .i64 x5_1 ∧ Aside0 (whirligigref02_word.l0 kq a0 a1 x5_1 = some r) ∧ Aside0 (kq ≤ k) ∧ Drawn0 w w')
  case atStart => exact ⟨(0), (by first | rfl | (simp; done) | (simp [*]; done)), H', ⟨Nat.le_refl _⟩, by repeat (first | exact Drawn0.refl _ | apply Drawn0.step)⟩
  case round =>
    clear H'
    try clear p2
    obtain ⟨x5_1, rfl, HA, HK1, ⟨m1, rfl⟩⟩ := hrel
    cases gk with
    | zero => exact absurd HA.out (by simp [whirligigref02_word.l0])
    | succ k1 =>
      have H := HA.out
      clear HA
      simp only [whirligigref02_word.l0] at H
      by_cases c3 : (wrap64 (a1 + x5_1)) < (a0.size : Int)
      · rw [if_pos c3] at H
        have c3b0 : decide ((wrap64 (a1 + x5_1)) < (a0.size : Int)) = true := decide_eq_true c3
        clear c3
        obtain ⟨ji4, hji4⟩ : ∃ j_ : Int, (wrap64 (a1 + x5_1)) = j_ := ⟨_, rfl⟩
        replace H : (if 0 ≤ (ji4) then ((whirligigref02_inner.f (bt a0 (ji4))).bind fun t165 => (if t165 = true then (whirligigref02_word.l0 k1 a0 a1 (wrap64 (x5_1 + 1))) else (some x5_1))) else (none)) = some r := by first | (rw [hji4] at H; exact H) | (simp only [hji4] at H ⊢; exact H)
        (try rw [hji4] at c3b0)
        have hji4w : (IntKind.i64.wrap (a1 + x5_1)) = ji4 := (i64_w _).trans hji4
        by_cases c5 : 0 ≤ (ji4)
        · rw [if_pos c5] at H
          have c5b0 : decide (0 ≤ (ji4)) = true := decide_eq_true c5
          clear c5
          replace H := Option.bind_eq_some_iff.mp H
          obtain ⟨t165, A70, H⟩ := H
          replace H : (if t165 = true then (whirligigref02_word.l0 k1 a0 a1 (wrap64 (x5_1 + 1))) else (some x5_1)) = some r := H
          have A7 := Aside0.mk A70
          clear A70
          by_cases c8 : t165 = true
          · subst c8
            have H1 : (whirligigref02_word.l0 k1 a0 a1 (wrap64 (x5_1 + 1))) = some r := by rw [if_pos rfl] at H; exact H
            clear H
            have H := H1
            clear H1
            have H' := Aside0.mk H
            clear H
            have p6 : 0 ≤ ((ji4) : Int) := of_decide_eq_true (by first | (with_reducible assumption) | assumption)
            have q6 : (ji4) < (a0.size : Int) := of_decide_eq_true (by first | (with_reducible assumption) | assumption)
            have hx6 := bt_at a0 (ji4)
            replace p6 := eq_true p6
            replace q6 := eq_true q6
            go_wp2_with (first | (go_at_call 113; (with_reducible refine (whirligigref02_inner.calls (bt a0 (ji4)) true _ A7.out).mono ?_); rintro e w' ⟨rfl, ⟨nd, rfl⟩⟩))
            go_roundg k1
            case measure => have := HK1.out; omega
            case rel => exact ⟨(wrap64 (x5_1 + 1)), (by first | rfl | (simp; done) | (simp [*]; done)), H', ⟨by have := HK1.out; omega⟩, by repeat (first | exact Drawn0.refl _ | apply Drawn0.step)⟩
          · replace c8 := Bool.eq_false_iff.mpr c8
            subst c8
            have H1 : (some x5_1) = some r := by rw [if_neg (show ¬ (false = true) by decide)] at H; exact H
            clear H
            have H := H1
            clear H1
            obtain rfl := Option.some.inj H
            have p6 : 0 ≤ ((ji4) : Int) := of_decide_eq_true (by first | (with_reducible assumption) | assumption)
            have q6 : (ji4) < (a0.size : Int) := of_decide_eq_true (by first | (with_reducible assumption) | assumption)
            have hx6 := bt_at a0 (ji4)
            replace p6 := eq_true p6
            replace q6 := eq_true q6
            go_wp2_with (first | (go_at_call 113; (with_reducible refine (whirligigref02_inner.calls (bt a0 (ji4)) false _ A7.out).mono ?_); rintro e w' ⟨rfl, ⟨nd, rfl⟩⟩))
            go_ret
            exact ⟨by first | rfl | (simp; done) | (simp only [← hji4] <;> (first | rfl | simp)) | (simp [*]; done), by repeat (first | exact Drawn0.refl _ | apply Drawn0.step)⟩
        · rw [if_neg c5] at H
          exact absurd H (by simp)
      · rw [if_neg c3] at H
        have c3b0 : decide ((wrap64 (a1 + x5_1)) < (a0.size : Int)) = false := decide_eq_false c3
        clear c3
        obtain rfl := Option.some.inj H
        go_wp2
        go_ret
        exact ⟨by first | rfl | (simp; done) | (simp [*]; done), by repeat (first | exact Drawn0.refl _ | apply Drawn0.step)⟩
def whirligigref02_path.l0 : Nat → ByteArray → Int → Int → Int → Bool → Option (Int × ByteArray × Int × Int × Int × Int)
  | 0, _, _, _, _, _ => none
  | k + 1, x0, x1, x8, x9, x10 => if x10 = true then (some (0, (⟨#[]⟩ : ByteArray), 0, 0, x1, 15)) else (if (wrap64 (x8 + 1)) < (x0.size : Int) then (if 0 ≤ x8 then (if x8 < (x0.size : Int) then (if (bt x0 x8) = 46 then (if 0 ≤ (wrap64 (x8 + 1)) then ((whirligigref02_letter.f (bt x0 (wrap64 (x8 + 1)))).bind fun t168 => (if t168 = true then ((whirligigref02_word.f k x0 (wrap64 (x8 + 1))).bind fun t169 => (whirligigref02_path.l0 k x0 x1 (wrap64 ((wrap64 (x8 + 1)) + t169)) 2 (decide (t169 > 16)))) else (if (wrap64 (x8 - x1)) > 32 then (some (0, (⟨#[]⟩ : ByteArray), 0, 0, x1, 15)) else (if 0 ≤ x1 then (if x1 ≤ x8 then (if x8 ≤ (x0.size : Int) then (some (x9, x0.extract (x1 : Int).toNat (x8 : Int).toNat, 0, x1, x8, 0)) else (none)) else (none)) else (none))))) else (none)) else (if (wrap64 (x8 - x1)) > 32 then (some (0, (⟨#[]⟩ : ByteArray), 0, 0, x1, 15)) else (if 0 ≤ x1 then (if x1 ≤ x8 then (if x8 ≤ (x0.size : Int) then (some (x9, x0.extract (x1 : Int).toNat (x8 : Int).toNat, 0, x1, x8, 0)) else (none)) else (none)) else (none)))) else (none)) else (none)) else (if (wrap64 (x8 - x1)) > 32 then (some (0, (⟨#[]⟩ : ByteArray), 0, 0, x1, 15)) else (if 0 ≤ x1 then (if x1 ≤ x8 then (if x8 ≤ (x0.size : Int) then (some (x9, x0.extract (x1 : Int).toNat (x8 : Int).toNat, 0, x1, x8, 0)) else (none)) else (none)) else (none))))
def whirligigref02_path.f (k : Nat) (a0 : ByteArray) (a1 : Int) : Option (Int × ByteArray × Int × Int × Int × Int) := (whirligigref02_word.f k a0 a1).bind fun t167 => (whirligigref02_path.l0 k a0 a1 (wrap64 (a1 + t167)) 1 (decide (t167 > 16)))
theorem whirligigref02_path.mono_l : ∀ k, (∀ y0 y1 y2 y3 y4, LeO (whirligigref02_path.l0 k y0 y1 y2 y3 y4) (whirligigref02_path.l0 (k + 1) y0 y1 y2 y3 y4))
  | 0 => fun _ _ _ _ _ r h => by simp [whirligigref02_path.l0] at h
  | k + 1 => by
    have ih0 := whirligigref02_path.mono_l k
    · intro y0 y1 y2 y3 y4
      unfold whirligigref02_path.l0
      repeat' first
      | (with_reducible exact ih0 _ _ _ _ _)
      | (with_reducible exact whirligigref02_word.mono _ _ _)
      | (with_reducible exact LeO.refl _)
      | (with_reducible exact LeO.none _)
      | (with_reducible refine LeO.ite ?_ ?_)
      | (with_reducible refine LeO.bind ?_ (fun _ => ?_))
      | exact ih0 _ _ _ _ _
      | exact whirligigref02_word.mono _ _ _
      | exact LeO.none _
      | refine LeO.ite ?_ ?_
      | refine LeO.bind ?_ (fun _ => ?_)
theorem whirligigref02_path.mono : ∀ a0 a1 k, LeO (whirligigref02_path.f k a0 a1) (whirligigref02_path.f (k + 1) a0 a1) := by
  intro a0 a1 k
  have ih0 := whirligigref02_path.mono_l k
  unfold whirligigref02_path.f
  repeat' first
      | (with_reducible exact ih0 _ _ _ _ _)
      | (with_reducible exact whirligigref02_word.mono _ _ _)
      | (with_reducible exact LeO.refl _)
      | (with_reducible exact LeO.none _)
      | (with_reducible refine LeO.ite ?_ ?_)
      | (with_reducible refine LeO.bind ?_ (fun _ => ?_))
      | exact ih0 _ _ _ _ _
      | exact whirligigref02_word.mono _ _ _
      | exact LeO.none _
      | refine LeO.ite ?_ ?_
      | refine LeO.bind ?_ (fun _ => ?_)
set_option maxHeartbeats 8000000 in
set_option maxRecDepth 100000 in
theorem whirligigref02_path.calls (k : Nat) (a0 : ByteArray) (a1 : Int) (r1 : Int) (r2 : ByteArray) (r3 : Int) (r4 : Int) (r5 : Int) (r6 : Int) (w : World) (h : whirligigref02_path.f k a0 a1 = some (r1, r2, r3, r4, r5, r6)) :
    Calls Tryd.prog 109 #[.string a0, .int .i64 a1] w fun e w' => e = .returned (.tuple #[.agg #[.int .i64 r1, .string r2, .int .i64 r3, .int .i64 r4], .int .i64 r5, .int .i64 r6]) ∧ Below w.heap.size w w' := by
  have hu31 := Tryd.underlying31
  have HB := Aside0.mk (Below.refl w.heap.size w)
  have H : ((whirligigref02_word.f k a0 a1).bind fun t167 => (whirligigref02_path.l0 k a0 a1 (wrap64 (a1 + t167)) 1 (decide (t167 > 16)))) = some (r1, r2, r3, r4, r5, r6) := h
  clear h
  replace H := Option.bind_eq_some_iff.mp H
  obtain ⟨t167, A30, H⟩ := H
  replace H : (whirligigref02_path.l0 k a0 a1 (wrap64 (a1 + t167)) 1 (decide (t167 > 16))) = some (r1, r2, r3, r4, r5, r6) := H
  have A3 := Aside0.mk A30
  clear A30
  have H' := Aside0.mk H
  clear H
  go_enter Tryd.func109, Tryd.ntmps109
  go_wp2_with (first | ((with_reducible refine gate_dst (N := 4) rfl ?_); (try (refine gate_guard (by rfl) ?_; dsimp only)); refine box_event ?hg (N := 4) ?hd (cs := #[.int .i64 0, .string (⟨#[]⟩ : ByteArray), .int .i64 0, .int .i64 0]) (t := 31) ?hr ?_; (case hd => rfl); (case hg => rfl); (case hr => first | (go_simp; done) | (go_simp; rfl)); intro gb166 hg w4 hbox hb; have n0_ := Aside0.mk (below_step (by repeat (first | (with_reducible first | exact HB.out | apply below_alloc | apply pw_below_drewN | apply below_drew1) | exact HB.out)) hb); have n1_ := Aside0.mk (hbox); have n2_ := Aside0.mk ((by rw [hg]; exact (below_size (by repeat (first | (with_reducible first | exact HB.out | apply below_alloc | apply pw_below_drewN | apply below_drew1) | exact HB.out))) : w.heap.size ≤ gb166)); have n3_ := Aside0.mk ((by rw [hg]; exact (below_size (by repeat (first | (with_reducible first | exact HB.out | apply below_alloc | apply pw_below_drewN | apply below_drew1) | exact HB.out))) : w.heap.size ≤ gb166)); clear HB; have HB := n0_; have BK166 := n1_; have GW166 := n2_; have GE166 := n3_; clear n0_ n1_ n2_ n3_; clear hb hbox hg) | ((with_reducible refine gate_callee (f := 71) rfl ?_); refine goesL_ (some 13) rfl rfl Tryd.func71 (by kernel_rfl) rfl #[.string a0, .int .i64 a1] rfl (by (try simp only [List.map_toArray, List.map_cons, List.map_nil]); first | done | rfl | (simp only [List.length_drop, List.length_take]; rfl)) ?_; (with_reducible refine (whirligigref02_word.calls k a0 a1 t167 _ A3.out).mono ?_); rintro e w' ⟨rfl, ⟨nd, rfl⟩⟩; refine ⟨_, rfl, ?_⟩))
  go_loopg [8, 9, 10] k (fun kq v8 v9 v10 w' => ∃ (x8_1 : Int) (x9_1 : Int) (x10_1 : Bool), v8 = .int .i64 x8_1 ∧ v9 = .int .i64 x9_1 ∧ v10 = .bool x10_1 ∧ Aside0 (whirligigref02_path.l0 kq a0 a1 x8_1 x9_1 x10_1 = some (r1, r2, r3, r4, r5, r6)) ∧ Aside0 (kq ≤ k) ∧ Aside0 (w'.heap[gb166]? = some (.cells #[.int .i64 0, .string (⟨#[]⟩ : ByteArray), .int .i64 0, .int .i64 0] 31 (0, 0))) ∧ Aside0 (Below w.heap.size w w'))
  case atStart => exact ⟨(wrap64 (a1 + t167)), (1), (decide (t167 > 16)), (by first | rfl | (simp; done) | (simp [*]; done)), (by first | rfl | (simp; done) | (simp [*]; done)), (by first | rfl | (simp; done) | (simp [*]; done)), H', ⟨Nat.le_refl _⟩, ⟨by (with_reducible repeat (first | refine blk_drewN ?_ _ | refine blk_drew ?_ | refine blk_alloc ?_ _)); exact BK166.out⟩, ⟨by repeat (first | (with_reducible first | exact HB.out | apply below_alloc | apply pw_below_drewN | apply below_drew1 | refine below_set ?_ GE166.out) | exact HB.out)⟩⟩
  case round =>
    clear H'
    try clear c1
    try clear p2
    obtain ⟨x8_1, x9_1, x10_1, rfl, rfl, rfl, HA, HK1, BK166, HB⟩ := hrel
    cases gk with
    | zero => exact absurd HA.out (by simp [whirligigref02_path.l0])
    | succ k1 =>
      have H := HA.out
      clear HA
      simp only [whirligigref02_path.l0] at H
      by_cases c5 : x10_1 = true
      · subst c5
        have H1 : (some (0, (⟨#[]⟩ : ByteArray), 0, 0, a1, 15)) = some (r1, r2, r3, r4, r5, r6) := by rw [if_pos rfl] at H; exact H
        clear H
        have H := H1
        clear H1
        simp only [Option.some.injEq, Prod.mk.injEq] at H
        obtain ⟨rfl, rfl, rfl, rfl, rfl, rfl⟩ := H
        have hcz6_0 : wr.cell? ⟨gb166, 0, none⟩ = some (.int .i64 0) := (blk_cell BK166.out 0).trans rfl
        have hcz6_1 : wr.cell? ⟨gb166, 1, none⟩ = some (.string (⟨#[]⟩ : ByteArray)) := (blk_cell BK166.out 1).trans rfl
        have hcz6_2 : wr.cell? ⟨gb166, 2, none⟩ = some (.int .i64 0) := (blk_cell BK166.out 2).trans rfl
        have hcz6_3 : wr.cell? ⟨gb166, 3, none⟩ = some (.int .i64 0) := (blk_cell BK166.out 3).trans rfl
        have hfz6_0 := blk_frozen BK166.out 0
        have hfz6_1 := blk_frozen BK166.out 1
        have hfz6_2 := blk_frozen BK166.out 2
        have hfz6_3 := blk_frozen BK166.out 3
        go_wp2
        refine bodyPost_ret (results_ctt rfl _ _ gb166 31 #[.int .i64 0, .string (⟨#[]⟩ : ByteArray), .int .i64 0, .int .i64 0] (0, 0) _ rfl (by (with_reducible repeat (first | refine blk_drewN ?_ _ | refine blk_drew ?_ | refine blk_alloc ?_ _)); refine blk_put (cs := #[.int .i64 0, .string (⟨#[]⟩ : ByteArray), .int .i64 0, .int .i64 0]) ?_ 3 _ rfl; (with_reducible repeat (first | refine blk_drewN ?_ _ | refine blk_drew ?_ | refine blk_alloc ?_ _)); refine blk_put (cs := #[.int .i64 0, .string (⟨#[]⟩ : ByteArray), .int .i64 0, .int .i64 0]) ?_ 2 _ rfl; (with_reducible repeat (first | refine blk_drewN ?_ _ | refine blk_drew ?_ | refine blk_alloc ?_ _)); refine blk_put (cs := #[.int .i64 0, .string (⟨#[]⟩ : ByteArray), .int .i64 0, .int .i64 0]) ?_ 1 _ rfl; (with_reducible repeat (first | refine blk_drewN ?_ _ | refine blk_drew ?_ | refine blk_alloc ?_ _)); refine blk_put (cs := #[.int .i64 0, .string (⟨#[]⟩ : ByteArray), .int .i64 0, .int .i64 0]) ?_ 0 _ rfl; (with_reducible repeat (first | refine blk_drewN ?_ _ | refine blk_drew ?_ | refine blk_alloc ?_ _)); exact BK166.out) Tryd.underlying31 rfl (by kernel_rfl)) rfl ?_
        exact ⟨by first | rfl | (simp [errW_none, errW_some] <;> rfl) | (simp [*, errW_none, errW_some] <;> rfl), by repeat (first | (with_reducible first | exact HB.out | apply below_alloc | apply pw_below_drewN | apply below_drew1 | refine below_set ?_ GE166.out) | exact HB.out)⟩
      · replace c5 := Bool.eq_false_iff.mpr c5
        subst c5
        have H1 : (if (wrap64 (x8_1 + 1)) < (a0.size : Int) then (if 0 ≤ x8_1 then (if x8_1 < (a0.size : Int) then (if (bt a0 x8_1) = 46 then (if 0 ≤ (wrap64 (x8_1 + 1)) then ((whirligigref02_letter.f (bt a0 (wrap64 (x8_1 + 1)))).bind fun t168 => (if t168 = true then ((whirligigref02_word.f k1 a0 (wrap64 (x8_1 + 1))).bind fun t169 => (whirligigref02_path.l0 k1 a0 a1 (wrap64 ((wrap64 (x8_1 + 1)) + t169)) 2 (decide (t169 > 16)))) else (if (wrap64 (x8_1 - a1)) > 32 then (some (0, (⟨#[]⟩ : ByteArray), 0, 0, a1, 15)) else (if 0 ≤ a1 then (if a1 ≤ x8_1 then (if x8_1 ≤ (a0.size : Int) then (some (x9_1, a0.extract (a1 : Int).toNat (x8_1 : Int).toNat, 0, a1, x8_1, 0)) else (none)) else (none)) else (none))))) else (none)) else (if (wrap64 (x8_1 - a1)) > 32 then (some (0, (⟨#[]⟩ : ByteArray), 0, 0, a1, 15)) else (if 0 ≤ a1 then (if a1 ≤ x8_1 then (if x8_1 ≤ (a0.size : Int) then (some (x9_1, a0.extract (a1 : Int).toNat (x8_1 : Int).toNat, 0, a1, x8_1, 0)) else (none)) else (none)) else (none)))) else (none)) else (none)) else (if (wrap64 (x8_1 - a1)) > 32 then (some (0, (⟨#[]⟩ : ByteArray), 0, 0, a1, 15)) else (if 0 ≤ a1 then (if a1 ≤ x8_1 then (if x8_1 ≤ (a0.size : Int) then (some (x9_1, a0.extract (a1 : Int).toNat (x8_1 : Int).toNat, 0, a1, x8_1, 0)) else (none)) else (none)) else (none)))) = some (r1, r2, r3, r4, r5, r6) := by rw [if_neg (show ¬ (false = true) by decide)] at H; exact H
        clear H
        have H := H1
        clear H1
        by_cases c7 : (wrap64 (x8_1 + 1)) < (a0.size : Int)
        · rw [if_pos c7] at H
          have c7b0 : decide ((wrap64 (x8_1 + 1)) < (a0.size : Int)) = true := decide_eq_true c7
          clear c7
          by_cases c8 : 0 ≤ x8_1
          · rw [if_pos c8] at H
            have c8b0 : decide (0 ≤ x8_1) = true := decide_eq_true c8
            clear c8
            by_cases c9 : x8_1 < (a0.size : Int)
            · rw [if_pos c9] at H
              have c9b0 : decide (x8_1 < (a0.size : Int)) = true := decide_eq_true c9
              clear c9
              by_cases c11 : (bt a0 x8_1) = 46
              · rw [if_pos c11] at H
                have c11b0 : ((bt a0 x8_1) == 46) = true := beq_iff_eq.mpr c11
                have c11b1 : ((bt a0 x8_1) != 46) = false := bne_eq_false_iff_eq.mpr c11
                clear c11
                obtain ⟨ji12, hji12⟩ : ∃ j_ : Int, (wrap64 (x8_1 + 1)) = j_ := ⟨_, rfl⟩
                replace H : (if 0 ≤ (ji12) then ((whirligigref02_letter.f (bt a0 (ji12))).bind fun t168 => (if t168 = true then ((whirligigref02_word.f k1 a0 (ji12)).bind fun t169 => (whirligigref02_path.l0 k1 a0 a1 (wrap64 ((ji12) + t169)) 2 (decide (t169 > 16)))) else (if (wrap64 (x8_1 - a1)) > 32 then (some (0, (⟨#[]⟩ : ByteArray), 0, 0, a1, 15)) else (if 0 ≤ a1 then (if a1 ≤ x8_1 then (if x8_1 ≤ (a0.size : Int) then (some (x9_1, a0.extract (a1 : Int).toNat (x8_1 : Int).toNat, 0, a1, x8_1, 0)) else (none)) else (none)) else (none))))) else (none)) = some (r1, r2, r3, r4, r5, r6) := by first | (rw [hji12] at H; exact H) | (simp only [hji12] at H ⊢; exact H)
                (try rw [hji12] at c7b0)
                have hji12w : (IntKind.i64.wrap (x8_1 + 1)) = ji12 := (i64_w _).trans hji12
                by_cases c13 : 0 ≤ (ji12)
                · rw [if_pos c13] at H
                  have c13b0 : decide (0 ≤ (ji12)) = true := decide_eq_true c13
                  clear c13
                  replace H := Option.bind_eq_some_iff.mp H
                  obtain ⟨t168, A150, H⟩ := H
                  replace H : (if t168 = true then ((whirligigref02_word.f k1 a0 (ji12)).bind fun t169 => (whirligigref02_path.l0 k1 a0 a1 (wrap64 ((ji12) + t169)) 2 (decide (t169 > 16)))) else (if (wrap64 (x8_1 - a1)) > 32 then (some (0, (⟨#[]⟩ : ByteArray), 0, 0, a1, 15)) else (if 0 ≤ a1 then (if a1 ≤ x8_1 then (if x8_1 ≤ (a0.size : Int) then (some (x9_1, a0.extract (a1 : Int).toNat (x8_1 : Int).toNat, 0, a1, x8_1, 0)) else (none)) else (none)) else (none)))) = some (r1, r2, r3, r4, r5, r6) := H
                  have A15 := Aside0.mk A150
                  clear A150
                  by_cases c16 : t168 = true
                  · subst c16
                    have H1 : ((whirligigref02_word.f k1 a0 (ji12)).bind fun t169 => (whirligigref02_path.l0 k1 a0 a1 (wrap64 ((ji12) + t169)) 2 (decide (t169 > 16)))) = some (r1, r2, r3, r4, r5, r6) := by rw [if_pos rfl] at H; exact H
                    clear H
                    have H := H1
                    clear H1
                    replace H := Option.bind_eq_some_iff.mp H
                    obtain ⟨t169, A170, H⟩ := H
                    replace H : (whirligigref02_path.l0 k1 a0 a1 (wrap64 ((ji12) + t169)) 2 (decide (t169 > 16))) = some (r1, r2, r3, r4, r5, r6) := H
                    have A17 := Aside0.mk A170
                    clear A170
                    have H' := Aside0.mk H
                    clear H
                    have p10 : 0 ≤ (x8_1 : Int) := of_decide_eq_true (by first | (with_reducible assumption) | assumption)
                    have q10 : x8_1 < (a0.size : Int) := of_decide_eq_true (by first | (with_reducible assumption) | assumption)
                    have hx10 := bt_at a0 x8_1
                    replace p10 := eq_true p10
                    replace q10 := eq_true q10
                    have p14 : 0 ≤ ((ji12) : Int) := of_decide_eq_true (by first | (with_reducible assumption) | assumption)
                    have q14 : (ji12) < (a0.size : Int) := of_decide_eq_true (by first | (with_reducible assumption) | assumption)
                    have hx14 := bt_at a0 (ji12)
                    replace p14 := eq_true p14
                    replace q14 := eq_true q14
                    go_wp2_with (first | (go_at_call 108; (with_reducible refine (whirligigref02_letter.calls (bt a0 (ji12)) true _ A15.out).mono ?_); rintro e w' ⟨rfl, ⟨nd, rfl⟩⟩) | ((with_reducible refine gate_callee (f := 71) rfl ?_); refine goesL_ (some 44) rfl rfl Tryd.func71 (by kernel_rfl) rfl #[.string a0, .int .i64 ji12] rfl (by (try simp only [List.map_toArray, List.map_cons, List.map_nil]); first | done | (simp only [hji12]; rfl) | rfl | (simp only [List.length_drop, List.length_take]; rfl)) ?_; (with_reducible refine (whirligigref02_word.calls k1 a0 ji12 t169 _ A17.out).mono ?_); rintro e w' ⟨rfl, ⟨nd, rfl⟩⟩; refine ⟨_, rfl, ?_⟩))
                    go_roundg k1
                    case measure => have := HK1.out; omega
                    case rel => exact ⟨(wrap64 ((ji12) + t169)), (2), (decide (t169 > 16)), (by first | rfl | (simp; done) | (simp only [← hji12] <;> (first | rfl | simp)) | (simp [*]; done)), (by first | rfl | (simp; done) | (simp [*]; done)), (by first | rfl | (simp; done) | (simp [*]; done)), H', ⟨by have := HK1.out; omega⟩, ⟨by (with_reducible repeat (first | refine blk_drewN ?_ _ | refine blk_drew ?_ | refine blk_alloc ?_ _)); exact BK166.out⟩, ⟨by repeat (first | (with_reducible first | exact HB.out | apply below_alloc | apply pw_below_drewN | apply below_drew1 | refine below_set ?_ GE166.out) | exact HB.out)⟩⟩
                  · replace c16 := Bool.eq_false_iff.mpr c16
                    subst c16
                    have H1 : (if (wrap64 (x8_1 - a1)) > 32 then (some (0, (⟨#[]⟩ : ByteArray), 0, 0, a1, 15)) else (if 0 ≤ a1 then (if a1 ≤ x8_1 then (if x8_1 ≤ (a0.size : Int) then (some (x9_1, a0.extract (a1 : Int).toNat (x8_1 : Int).toNat, 0, a1, x8_1, 0)) else (none)) else (none)) else (none))) = some (r1, r2, r3, r4, r5, r6) := by rw [if_neg (show ¬ (false = true) by decide)] at H; exact H
                    clear H
                    have H := H1
                    clear H1
                    by_cases c18 : (wrap64 (x8_1 - a1)) > 32
                    · rw [if_pos c18] at H
                      have c18b0 : decide (32 < (wrap64 (x8_1 - a1))) = true := decide_eq_true c18
                      clear c18
                      simp only [Option.some.injEq, Prod.mk.injEq] at H
                      obtain ⟨rfl, rfl, rfl, rfl, rfl, rfl⟩ := H
                      have p10 : 0 ≤ (x8_1 : Int) := of_decide_eq_true (by first | (with_reducible assumption) | assumption)
                      have q10 : x8_1 < (a0.size : Int) := of_decide_eq_true (by first | (with_reducible assumption) | assumption)
                      have hx10 := bt_at a0 x8_1
                      replace p10 := eq_true p10
                      replace q10 := eq_true q10
                      have p14 : 0 ≤ ((ji12) : Int) := of_decide_eq_true (by first | (with_reducible assumption) | assumption)
                      have q14 : (ji12) < (a0.size : Int) := of_decide_eq_true (by first | (with_reducible assumption) | assumption)
                      have hx14 := bt_at a0 (ji12)
                      replace p14 := eq_true p14
                      replace q14 := eq_true q14
                      go_wp2_with (first | (go_at_call 108; (with_reducible refine (whirligigref02_letter.calls (bt a0 (ji12)) false _ A15.out).mono ?_); rintro e w' ⟨rfl, ⟨nd, rfl⟩⟩; (try (rw [drewN_self wr]; generalize hq_ : World.drewN wr _ = wr; have n0_ : Aside0 (wr.heap[gb166]? = some (.cells #[.int .i64 0, .string (⟨#[]⟩ : ByteArray), .int .i64 0, .int .i64 0] 31 (0, 0))) := ⟨by rw [← hq_]; exact (by (with_reducible repeat (first | refine blk_drewN ?_ _ | refine blk_drew ?_ | refine blk_alloc ?_ _)); exact BK166.out)⟩; have n1_ : Aside0 (Below w.heap.size w wr) := ⟨by rw [← hq_]; exact (by repeat (first | (with_reducible first | exact HB.out | apply below_alloc | apply pw_below_drewN | apply below_drew1 | refine below_set ?_ GE166.out) | exact HB.out))⟩; clear BK166 HB hq_; have BK166 := n0_; have HB := n1_; clear n0_ n1_)); have hcz19_0 : wr.cell? ⟨gb166, 0, none⟩ = some (.int .i64 0) := (blk_cell BK166.out 0).trans rfl; have hcz19_1 : wr.cell? ⟨gb166, 1, none⟩ = some (.string (⟨#[]⟩ : ByteArray)) := (blk_cell BK166.out 1).trans rfl; have hcz19_2 : wr.cell? ⟨gb166, 2, none⟩ = some (.int .i64 0) := (blk_cell BK166.out 2).trans rfl; have hcz19_3 : wr.cell? ⟨gb166, 3, none⟩ = some (.int .i64 0) := (blk_cell BK166.out 3).trans rfl; have hfz19_0 := blk_frozen BK166.out 0; have hfz19_1 := blk_frozen BK166.out 1; have hfz19_2 := blk_frozen BK166.out 2; have hfz19_3 := blk_frozen BK166.out 3))
                      refine bodyPost_ret (results_ctt rfl _ _ gb166 31 #[.int .i64 0, .string (⟨#[]⟩ : ByteArray), .int .i64 0, .int .i64 0] (0, 0) _ rfl (by (with_reducible repeat (first | refine blk_drewN ?_ _ | refine blk_drew ?_ | refine blk_alloc ?_ _)); refine blk_put (cs := #[.int .i64 0, .string (⟨#[]⟩ : ByteArray), .int .i64 0, .int .i64 0]) ?_ 3 _ rfl; (with_reducible repeat (first | refine blk_drewN ?_ _ | refine blk_drew ?_ | refine blk_alloc ?_ _)); refine blk_put (cs := #[.int .i64 0, .string (⟨#[]⟩ : ByteArray), .int .i64 0, .int .i64 0]) ?_ 2 _ rfl; (with_reducible repeat (first | refine blk_drewN ?_ _ | refine blk_drew ?_ | refine blk_alloc ?_ _)); refine blk_put (cs := #[.int .i64 0, .string (⟨#[]⟩ : ByteArray), .int .i64 0, .int .i64 0]) ?_ 1 _ rfl; (with_reducible repeat (first | refine blk_drewN ?_ _ | refine blk_drew ?_ | refine blk_alloc ?_ _)); refine blk_put (cs := #[.int .i64 0, .string (⟨#[]⟩ : ByteArray), .int .i64 0, .int .i64 0]) ?_ 0 _ rfl; (with_reducible repeat (first | refine blk_drewN ?_ _ | refine blk_drew ?_ | refine blk_alloc ?_ _)); exact BK166.out) Tryd.underlying31 rfl (by kernel_rfl)) rfl ?_
                      exact ⟨by first | rfl | (simp [errW_none, errW_some] <;> rfl) | (simp only [← hji12]; first | rfl | (simp [errW_none, errW_some] <;> rfl)) | (simp [*, errW_none, errW_some] <;> rfl), by repeat (first | (with_reducible first | exact HB.out | apply below_alloc | apply pw_below_drewN | apply below_drew1 | refine below_set ?_ GE166.out) | exact HB.out)⟩
                    · rw [if_neg c18] at H
                      have c18b0 : decide (32 < (wrap64 (x8_1 - a1))) = false := decide_eq_false c18
                      clear c18
                      by_cases c20 : 0 ≤ a1
                      · rw [if_pos c20] at H
                        have c20b0 := eq_true c20
                        have c20b1 : decide (0 ≤ a1) = true := decide_eq_true c20
                        clear c20
                        by_cases c21 : a1 ≤ x8_1
                        · rw [if_pos c21] at H
                          have c21b0 := eq_true c21
                          have c21b1 : decide (a1 ≤ x8_1) = true := decide_eq_true c21
                          clear c21
                          by_cases c22 : x8_1 ≤ (a0.size : Int)
                          · rw [if_pos c22] at H
                            have c22b0 := eq_true c22
                            have c22b1 : decide (x8_1 ≤ (a0.size : Int)) = true := decide_eq_true c22
                            clear c22
                            simp only [Option.some.injEq, Prod.mk.injEq] at H
                            obtain ⟨rfl, rfl, rfl, rfl, rfl, rfl⟩ := H
                            have p10 : 0 ≤ (x8_1 : Int) := of_decide_eq_true (by first | (with_reducible assumption) | assumption)
                            have q10 : x8_1 < (a0.size : Int) := of_decide_eq_true (by first | (with_reducible assumption) | assumption)
                            have hx10 := bt_at a0 x8_1
                            replace p10 := eq_true p10
                            replace q10 := eq_true q10
                            have p14 : 0 ≤ ((ji12) : Int) := of_decide_eq_true (by first | (with_reducible assumption) | assumption)
                            have q14 : (ji12) < (a0.size : Int) := of_decide_eq_true (by first | (with_reducible assumption) | assumption)
                            have hx14 := bt_at a0 (ji12)
                            replace p14 := eq_true p14
                            replace q14 := eq_true q14
                            go_wp2_with (first | (go_at_call 108; (with_reducible refine (whirligigref02_letter.calls (bt a0 (ji12)) false _ A15.out).mono ?_); rintro e w' ⟨rfl, ⟨nd, rfl⟩⟩; (try (rw [drewN_self wr]; generalize hq_ : World.drewN wr _ = wr; have n0_ : Aside0 (wr.heap[gb166]? = some (.cells #[.int .i64 0, .string (⟨#[]⟩ : ByteArray), .int .i64 0, .int .i64 0] 31 (0, 0))) := ⟨by rw [← hq_]; exact (by (with_reducible repeat (first | refine blk_drewN ?_ _ | refine blk_drew ?_ | refine blk_alloc ?_ _)); exact BK166.out)⟩; have n1_ : Aside0 (Below w.heap.size w wr) := ⟨by rw [← hq_]; exact (by repeat (first | (with_reducible first | exact HB.out | apply below_alloc | apply pw_below_drewN | apply below_drew1 | refine below_set ?_ GE166.out) | exact HB.out))⟩; clear BK166 HB hq_; have BK166 := n0_; have HB := n1_; clear n0_ n1_)); have hcz23_0 : wr.cell? ⟨gb166, 0, none⟩ = some (.int .i64 0) := (blk_cell BK166.out 0).trans rfl; have hcz23_1 : wr.cell? ⟨gb166, 1, none⟩ = some (.string (⟨#[]⟩ : ByteArray)) := (blk_cell BK166.out 1).trans rfl; have hcz23_2 : wr.cell? ⟨gb166, 2, none⟩ = some (.int .i64 0) := (blk_cell BK166.out 2).trans rfl; have hcz23_3 : wr.cell? ⟨gb166, 3, none⟩ = some (.int .i64 0) := (blk_cell BK166.out 3).trans rfl; have hfz23_0 := blk_frozen BK166.out 0; have hfz23_1 := blk_frozen BK166.out 1; have hfz23_2 := blk_frozen BK166.out 2; have hfz23_3 := blk_frozen BK166.out 3))
                            refine bodyPost_ret (results_ctt rfl _ _ gb166 31 #[.int .i64 x9_1, .string (a0.extract (a1 : Int).toNat (x8_1 : Int).toNat), .int .i64 0, .int .i64 a1] (0, 0) _ rfl (by (with_reducible repeat (first | refine blk_drewN ?_ _ | refine blk_drew ?_ | refine blk_alloc ?_ _)); refine blk_put (cs := #[.int .i64 x9_1, .string (a0.extract (a1 : Int).toNat (x8_1 : Int).toNat), .int .i64 0, .int .i64 0]) ?_ 3 _ rfl; (with_reducible repeat (first | refine blk_drewN ?_ _ | refine blk_drew ?_ | refine blk_alloc ?_ _)); refine blk_put (cs := #[.int .i64 x9_1, .string (a0.extract (a1 : Int).toNat (x8_1 : Int).toNat), .int .i64 0, .int .i64 0]) ?_ 2 _ rfl; (with_reducible repeat (first | refine blk_drewN ?_ _ | refine blk_drew ?_ | refine blk_alloc ?_ _)); refine blk_put (cs := #[.int .i64 x9_1, .string (⟨#[]⟩ : ByteArray), .int .i64 0, .int .i64 0]) ?_ 1 _ rfl; (with_reducible repeat (first | refine blk_drewN ?_ _ | refine blk_drew ?_ | refine blk_alloc ?_ _)); refine blk_put (cs := #[.int .i64 0, .string (⟨#[]⟩ : ByteArray), .int .i64 0, .int .i64 0]) ?_ 0 _ rfl; (with_reducible repeat (first | refine blk_drewN ?_ _ | refine blk_drew ?_ | refine blk_alloc ?_ _)); exact BK166.out) Tryd.underlying31 rfl (by kernel_rfl)) rfl ?_
                            exact ⟨by first | rfl | (simp [errW_none, errW_some] <;> rfl) | (simp only [← hji12]; first | rfl | (simp [errW_none, errW_some] <;> rfl)) | (simp [*, errW_none, errW_some] <;> rfl), by repeat (first | (with_reducible first | exact HB.out | apply below_alloc | apply pw_below_drewN | apply below_drew1 | refine below_set ?_ GE166.out) | exact HB.out)⟩
                          · rw [if_neg c22] at H
                            exact absurd H (by simp)
                        · rw [if_neg c21] at H
                          exact absurd H (by simp)
                      · rw [if_neg c20] at H
                        exact absurd H (by simp)
                · rw [if_neg c13] at H
                  exact absurd H (by simp)
              · rw [if_neg c11] at H
                have c11b0 : ((bt a0 x8_1) == 46) = false := beq_eq_false_iff_ne.mpr c11
                have c11b1 : ((bt a0 x8_1) != 46) = true := bne_iff_ne.mpr c11
                by_cases c24 : (wrap64 (x8_1 - a1)) > 32
                · rw [if_pos c24] at H
                  have c24b0 : decide (32 < (wrap64 (x8_1 - a1))) = true := decide_eq_true c24
                  clear c24
                  simp only [Option.some.injEq, Prod.mk.injEq] at H
                  obtain ⟨rfl, rfl, rfl, rfl, rfl, rfl⟩ := H
                  have p10 : 0 ≤ (x8_1 : Int) := of_decide_eq_true (by first | (with_reducible assumption) | assumption)
                  have q10 : x8_1 < (a0.size : Int) := of_decide_eq_true (by first | (with_reducible assumption) | assumption)
                  have hx10 := bt_at a0 x8_1
                  replace p10 := eq_true p10
                  replace q10 := eq_true q10
                  have hcz25_0 : wr.cell? ⟨gb166, 0, none⟩ = some (.int .i64 0) := (blk_cell BK166.out 0).trans rfl
                  have hcz25_1 : wr.cell? ⟨gb166, 1, none⟩ = some (.string (⟨#[]⟩ : ByteArray)) := (blk_cell BK166.out 1).trans rfl
                  have hcz25_2 : wr.cell? ⟨gb166, 2, none⟩ = some (.int .i64 0) := (blk_cell BK166.out 2).trans rfl
                  have hcz25_3 : wr.cell? ⟨gb166, 3, none⟩ = some (.int .i64 0) := (blk_cell BK166.out 3).trans rfl
                  have hfz25_0 := blk_frozen BK166.out 0
                  have hfz25_1 := blk_frozen BK166.out 1
                  have hfz25_2 := blk_frozen BK166.out 2
                  have hfz25_3 := blk_frozen BK166.out 3
                  go_wp2
                  refine bodyPost_ret (results_ctt rfl _ _ gb166 31 #[.int .i64 0, .string (⟨#[]⟩ : ByteArray), .int .i64 0, .int .i64 0] (0, 0) _ rfl (by (with_reducible repeat (first | refine blk_drewN ?_ _ | refine blk_drew ?_ | refine blk_alloc ?_ _)); refine blk_put (cs := #[.int .i64 0, .string (⟨#[]⟩ : ByteArray), .int .i64 0, .int .i64 0]) ?_ 3 _ rfl; (with_reducible repeat (first | refine blk_drewN ?_ _ | refine blk_drew ?_ | refine blk_alloc ?_ _)); refine blk_put (cs := #[.int .i64 0, .string (⟨#[]⟩ : ByteArray), .int .i64 0, .int .i64 0]) ?_ 2 _ rfl; (with_reducible repeat (first | refine blk_drewN ?_ _ | refine blk_drew ?_ | refine blk_alloc ?_ _)); refine blk_put (cs := #[.int .i64 0, .string (⟨#[]⟩ : ByteArray), .int .i64 0, .int .i64 0]) ?_ 1 _ rfl; (with_reducible repeat (first | refine blk_drewN ?_ _ | refine blk_drew ?_ | refine blk_alloc ?_ _)); refine blk_put (cs := #[.int .i64 0, .string (⟨#[]⟩ : ByteArray), .int .i64 0, .int .i64 0]) ?_ 0 _ rfl; (with_reducible repeat (first | refine blk_drewN ?_ _ | refine blk_drew ?_ | refine blk_alloc ?_ _)); exact BK166.out) Tryd.underlying31 rfl (by kernel_rfl)) rfl ?_
                  exact ⟨by first | rfl | (simp [errW_none, errW_some] <;> rfl) | (simp [*, errW_none, errW_some] <;> rfl), by repeat (first | (with_reducible first | exact HB.out | apply below_alloc | apply pw_below_drewN | apply below_drew1 | refine below_set ?_ GE166.out) | exact HB.out)⟩
                · rw [if_neg c24] at H
                  have c24b0 : decide (32 < (wrap64 (x8_1 - a1))) = false := decide_eq_false c24
                  clear c24
                  by_cases c26 : 0 ≤ a1
                  · rw [if_pos c26] at H
                    have c26b0 := eq_true c26
                    have c26b1 : decide (0 ≤ a1) = true := decide_eq_true c26
                    clear c26
                    by_cases c27 : a1 ≤ x8_1
                    · rw [if_pos c27] at H
                      have c27b0 := eq_true c27
                      have c27b1 : decide (a1 ≤ x8_1) = true := decide_eq_true c27
                      clear c27
                      by_cases c28 : x8_1 ≤ (a0.size : Int)
                      · rw [if_pos c28] at H
                        have c28b0 := eq_true c28
                        have c28b1 : decide (x8_1 ≤ (a0.size : Int)) = true := decide_eq_true c28
                        clear c28
                        simp only [Option.some.injEq, Prod.mk.injEq] at H
                        obtain ⟨rfl, rfl, rfl, rfl, rfl, rfl⟩ := H
                        have p10 : 0 ≤ (x8_1 : Int) := of_decide_eq_true (by first | (with_reducible assumption) | assumption)
                        have q10 : x8_1 < (a0.size : Int) := of_decide_eq_true (by first | (with_reducible assumption) | assumption)
                        have hx10 := bt_at a0 x8_1
                        replace p10 := eq_true p10
                        replace q10 := eq_true q10
                        have hcz29_0 : wr.cell? ⟨gb166, 0, none⟩ = some (.int .i64 0) := (blk_cell BK166.out 0).trans rfl
                        have hcz29_1 : wr.cell? ⟨gb166, 1, none⟩ = some (.string (⟨#[]⟩ : ByteArray)) := (blk_cell BK166.out 1).trans rfl
                        have hcz29_2 : wr.cell? ⟨gb166, 2, none⟩ = some (.int .i64 0) := (blk_cell BK166.out 2).trans rfl
                        have hcz29_3 : wr.cell? ⟨gb166, 3, none⟩ = some (.int .i64 0) := (blk_cell BK166.out 3).trans rfl
                        have hfz29_0 := blk_frozen BK166.out 0
                        have hfz29_1 := blk_frozen BK166.out 1
                        have hfz29_2 := blk_frozen BK166.out 2
                        have hfz29_3 := blk_frozen BK166.out 3
                        go_wp2
                        refine bodyPost_ret (results_ctt rfl _ _ gb166 31 #[.int .i64 x9_1, .string (a0.extract (a1 : Int).toNat (x8_1 : Int).toNat), .int .i64 0, .int .i64 a1] (0, 0) _ rfl (by (with_reducible repeat (first | refine blk_drewN ?_ _ | refine blk_drew ?_ | refine blk_alloc ?_ _)); refine blk_put (cs := #[.int .i64 x9_1, .string (a0.extract (a1 : Int).toNat (x8_1 : Int).toNat), .int .i64 0, .int .i64 0]) ?_ 3 _ rfl; (with_reducible repeat (first | refine blk_drewN ?_ _ | refine blk_drew ?_ | refine blk_alloc ?_ _)); refine blk_put (cs := #[.int .i64 x9_1, .string (a0.extract (a1 : Int).toNat (x8_1 : Int).toNat), .int .i64 0, .int .i64 0]) ?_ 2 _ rfl; (with_reducible repeat (first | refine blk_drewN ?_ _ | refine blk_drew ?_ | refine blk_alloc ?_ _)); refine blk_put (cs := #[.int .i64 x9_1, .string (⟨#[]⟩ : ByteArray), .int .i64 0, .int .i64 0]) ?_ 1 _ rfl; (with_reducible repeat (first | refine blk_drewN ?_ _ | refine blk_drew ?_ | refine blk_alloc ?_ _)); refine blk_put (cs := #[.int .i64 0, .string (⟨#[]⟩ : ByteArray), .int .i64 0, .int .i64 0]) ?_ 0 _ rfl; (with_reducible repeat (first | refine blk_drewN ?_ _ | refine blk_drew ?_ | refine blk_alloc ?_ _)); exact BK166.out) Tryd.underlying31 rfl (by kernel_rfl)) rfl ?_
                        exact ⟨by first | rfl | (simp [errW_none, errW_some] <;> rfl) | (simp [*, errW_none, errW_some] <;> rfl), by repeat (first | (with_reducible first | exact HB.out | apply below_alloc | apply pw_below_drewN | apply below_drew1 | refine below_set ?_ GE166.out) | exact HB.out)⟩
                      · rw [if_neg c28] at H
                        exact absurd H (by simp)
                    · rw [if_neg c27] at H
                      exact absurd H (by simp)
                  · rw [if_neg c26] at H
                    exact absurd H (by simp)
            · rw [if_neg c9] at H
              exact absurd H (by simp)
          · rw [if_neg c8] at H
            exact absurd H (by simp)
        · rw [if_neg c7] at H
          have c7b0 : decide ((wrap64 (x8_1 + 1)) < (a0.size : Int)) = false := decide_eq_false c7
          clear c7
          by_cases c30 : (wrap64 (x8_1 - a1)) > 32
          · rw [if_pos c30] at H
            have c30b0 : decide (32 < (wrap64 (x8_1 - a1))) = true := decide_eq_true c30
            clear c30
            simp only [Option.some.injEq, Prod.mk.injEq] at H
            obtain ⟨rfl, rfl, rfl, rfl, rfl, rfl⟩ := H
            have hcz31_0 : wr.cell? ⟨gb166, 0, none⟩ = some (.int .i64 0) := (blk_cell BK166.out 0).trans rfl
            have hcz31_1 : wr.cell? ⟨gb166, 1, none⟩ = some (.string (⟨#[]⟩ : ByteArray)) := (blk_cell BK166.out 1).trans rfl
            have hcz31_2 : wr.cell? ⟨gb166, 2, none⟩ = some (.int .i64 0) := (blk_cell BK166.out 2).trans rfl
            have hcz31_3 : wr.cell? ⟨gb166, 3, none⟩ = some (.int .i64 0) := (blk_cell BK166.out 3).trans rfl
            have hfz31_0 := blk_frozen BK166.out 0
            have hfz31_1 := blk_frozen BK166.out 1
            have hfz31_2 := blk_frozen BK166.out 2
            have hfz31_3 := blk_frozen BK166.out 3
            go_wp2
            refine bodyPost_ret (results_ctt rfl _ _ gb166 31 #[.int .i64 0, .string (⟨#[]⟩ : ByteArray), .int .i64 0, .int .i64 0] (0, 0) _ rfl (by (with_reducible repeat (first | refine blk_drewN ?_ _ | refine blk_drew ?_ | refine blk_alloc ?_ _)); refine blk_put (cs := #[.int .i64 0, .string (⟨#[]⟩ : ByteArray), .int .i64 0, .int .i64 0]) ?_ 3 _ rfl; (with_reducible repeat (first | refine blk_drewN ?_ _ | refine blk_drew ?_ | refine blk_alloc ?_ _)); refine blk_put (cs := #[.int .i64 0, .string (⟨#[]⟩ : ByteArray), .int .i64 0, .int .i64 0]) ?_ 2 _ rfl; (with_reducible repeat (first | refine blk_drewN ?_ _ | refine blk_drew ?_ | refine blk_alloc ?_ _)); refine blk_put (cs := #[.int .i64 0, .string (⟨#[]⟩ : ByteArray), .int .i64 0, .int .i64 0]) ?_ 1 _ rfl; (with_reducible repeat (first | refine blk_drewN ?_ _ | refine blk_drew ?_ | refine blk_alloc ?_ _)); refine blk_put (cs := #[.int .i64 0, .string (⟨#[]⟩ : ByteArray), .int .i64 0, .int .i64 0]) ?_ 0 _ rfl; (with_reducible repeat (first | refine blk_drewN ?_ _ | refine blk_drew ?_ | refine blk_alloc ?_ _)); exact BK166.out) Tryd.underlying31 rfl (by kernel_rfl)) rfl ?_
            exact ⟨by first | rfl | (simp [errW_none, errW_some] <;> rfl) | (simp [*, errW_none, errW_some] <;> rfl), by repeat (first | (with_reducible first | exact HB.out | apply below_alloc | apply pw_below_drewN | apply below_drew1 | refine below_set ?_ GE166.out) | exact HB.out)⟩
          · rw [if_neg c30] at H
            have c30b0 : decide (32 < (wrap64 (x8_1 - a1))) = false := decide_eq_false c30
            clear c30
            by_cases c32 : 0 ≤ a1
            · rw [if_pos c32] at H
              have c32b0 := eq_true c32
              have c32b1 : decide (0 ≤ a1) = true := decide_eq_true c32
              clear c32
              by_cases c33 : a1 ≤ x8_1
              · rw [if_pos c33] at H
                have c33b0 := eq_true c33
                have c33b1 : decide (a1 ≤ x8_1) = true := decide_eq_true c33
                clear c33
                by_cases c34 : x8_1 ≤ (a0.size : Int)
                · rw [if_pos c34] at H
                  have c34b0 := eq_true c34
                  have c34b1 : decide (x8_1 ≤ (a0.size : Int)) = true := decide_eq_true c34
                  clear c34
                  simp only [Option.some.injEq, Prod.mk.injEq] at H
                  obtain ⟨rfl, rfl, rfl, rfl, rfl, rfl⟩ := H
                  have hcz35_0 : wr.cell? ⟨gb166, 0, none⟩ = some (.int .i64 0) := (blk_cell BK166.out 0).trans rfl
                  have hcz35_1 : wr.cell? ⟨gb166, 1, none⟩ = some (.string (⟨#[]⟩ : ByteArray)) := (blk_cell BK166.out 1).trans rfl
                  have hcz35_2 : wr.cell? ⟨gb166, 2, none⟩ = some (.int .i64 0) := (blk_cell BK166.out 2).trans rfl
                  have hcz35_3 : wr.cell? ⟨gb166, 3, none⟩ = some (.int .i64 0) := (blk_cell BK166.out 3).trans rfl
                  have hfz35_0 := blk_frozen BK166.out 0
                  have hfz35_1 := blk_frozen BK166.out 1
                  have hfz35_2 := blk_frozen BK166.out 2
                  have hfz35_3 := blk_frozen BK166.out 3
                  go_wp2
                  refine bodyPost_ret (results_ctt rfl _ _ gb166 31 #[.int .i64 x9_1, .string (a0.extract (a1 : Int).toNat (x8_1 : Int).toNat), .int .i64 0, .int .i64 a1] (0, 0) _ rfl (by (with_reducible repeat (first | refine blk_drewN ?_ _ | refine blk_drew ?_ | refine blk_alloc ?_ _)); refine blk_put (cs := #[.int .i64 x9_1, .string (a0.extract (a1 : Int).toNat (x8_1 : Int).toNat), .int .i64 0, .int .i64 0]) ?_ 3 _ rfl; (with_reducible repeat (first | refine blk_drewN ?_ _ | refine blk_drew ?_ | refine blk_alloc ?_ _)); refine blk_put (cs := #[.int .i64 x9_1, .string (a0.extract (a1 : Int).toNat (x8_1 : Int).toNat), .int .i64 0, .int .i64 0]) ?_ 2 _ rfl; (with_reducible repeat (first | refine blk_drewN ?_ _ | refine blk_drew ?_ | refine blk_alloc ?_ _)); refine blk_put (cs := #[.int .i64 x9_1, .string (⟨#[]⟩ : ByteArray), .int .i64 0, .int .i64 0]) ?_ 1 _ rfl; (with_reducible repeat (first | refine blk_drewN ?_ _ | refine blk_drew ?_ | refine blk_alloc ?_ _)); refine blk_put (cs := #[.int .i64 0, .string (⟨#[]⟩ : ByteArray), .int .i64 0, .int .i64 0]) ?_ 0 _ rfl; (with_reducible repeat (first | refine blk_drewN ?_ _ | refine blk_drew ?_ | refine blk_alloc ?_ _)); exact BK166.out) Tryd.underlying31 rfl (by kernel_rfl)) rfl ?_
                  exact ⟨by first | rfl | (simp [errW_none, errW_some] <;> rfl) | (simp [*, errW_none, errW_some] <;> rfl), by repeat (first | (with_reducible first | exact HB.out | apply below_alloc | apply pw_below_drewN | apply below_drew1 | refine below_set ?_ GE166.out) | exact HB.out)⟩
                · rw [if_neg c34] at H
                  exact absurd H (by simp)
              · rw [if_neg c33] at H
                exact absurd H (by simp)
            · rw [if_neg c32] at H
              exact absurd H (by simp)
def whirligigref01_Digits.f : Nat → Int → Option (ByteArray)
  | 0, _ => none
  | k + 1, a0 => if a0 ≤ (-10) then ((whirligigref01_Digits.f k (wrap64 (Int.tdiv a0 10))).bind fun t170 => ((whirligigref01_Digits.f k (wrap64 (-(Int.tmod a0 10)))).bind fun t171 => (if t170.size + t171.size ≤ 9223372036854775807 then (some (t170 ++ t171)) else (none)))) else (if a0 < 0 then ((whirligigref01_Digits.f k (wrap64 (-a0))).bind fun t172 => (if 1 + t172.size ≤ 9223372036854775807 then (some ((⟨#[45]⟩ : ByteArray) ++ t172)) else (none))) else (if a0 < 10 then (some (strOfNums (([(wrap64 (48 + a0)) % 256] : List Int)))) else ((whirligigref01_Digits.f k (wrap64 (Int.tdiv a0 10))).bind fun t176 => ((whirligigref01_Digits.f k (Int.tmod a0 10)).bind fun t177 => (if t176.size + t177.size ≤ 9223372036854775807 then (some (t176 ++ t177)) else (none))))))
theorem whirligigref01_Digits.mono_l : ∀ k, (∀ y0, LeO (whirligigref01_Digits.f k y0) (whirligigref01_Digits.f (k + 1) y0))
  | 0 => fun _ r h => by simp [whirligigref01_Digits.f] at h
  | k + 1 => by
    have ih0 := whirligigref01_Digits.mono_l k
    · intro y0
      unfold whirligigref01_Digits.f
      repeat' first
      | (with_reducible exact ih0 _)
      | (with_reducible exact LeO.refl _)
      | (with_reducible exact LeO.none _)
      | (with_reducible refine LeO.ite ?_ ?_)
      | (with_reducible refine LeO.bind ?_ (fun _ => ?_))
      | exact ih0 _
      | exact LeO.none _
      | refine LeO.ite ?_ ?_
      | refine LeO.bind ?_ (fun _ => ?_)
theorem whirligigref01_Digits.mono : ∀ a0 k, LeO (whirligigref01_Digits.f k a0) (whirligigref01_Digits.f (k + 1) a0) := by
  intro a0 k
  have ih0 := whirligigref01_Digits.mono_l k
  exact ih0 a0
set_option maxHeartbeats 8000000 in
set_option maxRecDepth 100000 in
theorem whirligigref01_Digits.calls (k : Nat) : ∀ (a0 : Int) (r : ByteArray) (w : World) (h : whirligigref01_Digits.f k a0 = some r),
    Calls Tryd.prog 154 #[.int .i64 a0] w fun e w' => e = .returned (.string r) ∧ Below w.heap.size w w' := by
  induction k using Nat.strongRecOn with
  | _ k ih =>
  intro a0 r w h
  cases k with
  | zero => exact absurd h (by simp [whirligigref01_Digits.f])
  | succ k =>
  simp only [whirligigref01_Digits.f] at h
  have HB := Aside0.mk (Below.refl w.heap.size w)
  have H : (if a0 ≤ (-10) then ((whirligigref01_Digits.f k (wrap64 (Int.tdiv a0 10))).bind fun t170 => ((whirligigref01_Digits.f k (wrap64 (-(Int.tmod a0 10)))).bind fun t171 => (if t170.size + t171.size ≤ 9223372036854775807 then (some (t170 ++ t171)) else (none)))) else (if a0 < 0 then ((whirligigref01_Digits.f k (wrap64 (-a0))).bind fun t172 => (if 1 + t172.size ≤ 9223372036854775807 then (some ((⟨#[45]⟩ : ByteArray) ++ t172)) else (none))) else (if a0 < 10 then (some (strOfNums (([(wrap64 (48 + a0)) % 256] : List Int)))) else ((whirligigref01_Digits.f k (wrap64 (Int.tdiv a0 10))).bind fun t176 => ((whirligigref01_Digits.f k (Int.tmod a0 10)).bind fun t177 => (if t176.size + t177.size ≤ 9223372036854775807 then (some (t176 ++ t177)) else (none))))))) = some r := h
  clear h
  by_cases c2 : a0 ≤ (-10)
  · rw [if_pos c2] at H
    have c2b0 : decide (a0 ≤ (-10)) = true := decide_eq_true c2
    clear c2
    replace H := Option.bind_eq_some_iff.mp H
    obtain ⟨t170, A30, H⟩ := H
    replace H : ((whirligigref01_Digits.f k (wrap64 (-(Int.tmod a0 10)))).bind fun t171 => (if t170.size + t171.size ≤ 9223372036854775807 then (some (t170 ++ t171)) else (none))) = some r := H
    have A3 := Aside0.mk A30
    clear A30
    replace H := Option.bind_eq_some_iff.mp H
    obtain ⟨t171, A40, H⟩ := H
    replace H : (if t170.size + t171.size ≤ 9223372036854775807 then (some (t170 ++ t171)) else (none)) = some r := H
    have A4 := Aside0.mk A40
    clear A40
    by_cases c5 : t170.size + t171.size ≤ 9223372036854775807
    · rw [if_pos c5] at H
      have c5b0 := eq_true c5
      have c5b1 : decide (t170.size + t171.size ≤ 9223372036854775807) = true := decide_eq_true c5
      try have c5b2 : (9223372036854775807 < t170.size + t171.size) = False := eq_false (Nat.not_lt.2 c5)
      obtain rfl := Option.some.inj H
      go_enter Tryd.func154, Tryd.ntmps154
      go_wp2_with (first | ((with_reducible refine gate_callee (f := 154) rfl ?_); refine goesL_ (some 7) rfl rfl Tryd.func154 (by kernel_rfl) rfl #[.int .i64 (wrap64 (Int.tdiv a0 10))] rfl (by (try simp only [List.map_toArray, List.map_cons, List.map_nil]); first | done | rfl | (simp only [List.length_drop, List.length_take]; rfl)) ?_; (with_reducible refine (ih k (by omega) (wrap64 (Int.tdiv a0 10)) t170 _ A3.out).mono ?_); rintro e w6 ⟨rfl, hb⟩; refine ⟨_, rfl, ?_⟩; have n0_ := Aside0.mk (below_step (by repeat (first | (with_reducible first | exact HB.out | apply below_alloc | apply pw_below_drewN | apply below_drew1) | exact HB.out)) hb); clear HB; have HB := n0_; clear n0_; (try clear hb); (try clear hb2); (try clear hk); (try clear hi)) | ((with_reducible refine gate_callee (f := 154) rfl ?_); refine goesL_ (some 11) rfl rfl Tryd.func154 (by kernel_rfl) rfl #[.int .i64 (wrap64 (-(Int.tmod a0 10)))] rfl (by (try simp only [List.map_toArray, List.map_cons, List.map_nil]); first | done | rfl | (simp only [List.length_drop, List.length_take]; rfl)) ?_; (with_reducible refine (ih k (by omega) (wrap64 (-(Int.tmod a0 10))) t171 _ A4.out).mono ?_); rintro e w7 ⟨rfl, hb⟩; refine ⟨_, rfl, ?_⟩; have n0_ := Aside0.mk (below_step (by repeat (first | (with_reducible first | exact HB.out | apply below_alloc | apply pw_below_drewN | apply below_drew1) | exact HB.out)) hb); clear HB; have HB := n0_; clear n0_; (try clear hb); (try clear hb2); (try clear hk); (try clear hi)))
      go_ret
      exact ⟨by first | rfl | (simp [errW_none, errW_some] <;> rfl) | (simp [*, errW_none, errW_some] <;> rfl), by repeat (first | (with_reducible first | exact HB.out | apply below_alloc | apply pw_below_drewN | apply below_drew1) | exact HB.out)⟩
    · rw [if_neg c5] at H
      exact absurd H (by simp)
  · rw [if_neg c2] at H
    have c2b0 : decide (a0 ≤ (-10)) = false := decide_eq_false c2
    clear c2
    by_cases c8 : a0 < 0
    · rw [if_pos c8] at H
      have c8b0 : decide (a0 < 0) = true := decide_eq_true c8
      clear c8
      replace H := Option.bind_eq_some_iff.mp H
      obtain ⟨t172, A90, H⟩ := H
      replace H : (if 1 + t172.size ≤ 9223372036854775807 then (some ((⟨#[45]⟩ : ByteArray) ++ t172)) else (none)) = some r := H
      have A9 := Aside0.mk A90
      clear A90
      by_cases c10 : 1 + t172.size ≤ 9223372036854775807
      · rw [if_pos c10] at H
        have c10b0 := eq_true c10
        have c10b1 : decide (1 + t172.size ≤ 9223372036854775807) = true := decide_eq_true c10
        try have c10b2 : (9223372036854775807 < 1 + t172.size) = False := eq_false (Nat.not_lt.2 c10)
        obtain rfl := Option.some.inj H
        go_enter Tryd.func154, Tryd.ntmps154
        go_wp2_with (first | ((with_reducible refine gate_callee (f := 154) rfl ?_); refine goesL_ (some 17) rfl rfl Tryd.func154 (by kernel_rfl) rfl #[.int .i64 (wrap64 (-a0))] rfl (by (try simp only [List.map_toArray, List.map_cons, List.map_nil]); first | done | rfl | (simp only [List.length_drop, List.length_take]; rfl)) ?_; (with_reducible refine (ih k (by omega) (wrap64 (-a0)) t172 _ A9.out).mono ?_); rintro e w11 ⟨rfl, hb⟩; refine ⟨_, rfl, ?_⟩; have n0_ := Aside0.mk (below_step (by repeat (first | (with_reducible first | exact HB.out | apply below_alloc | apply pw_below_drewN | apply below_drew1) | exact HB.out)) hb); clear HB; have HB := n0_; clear n0_; (try clear hb); (try clear hb2); (try clear hk); (try clear hi)))
        go_ret
        exact ⟨by first | rfl | (simp [errW_none, errW_some] <;> rfl) | (simp [*, errW_none, errW_some] <;> rfl), by repeat (first | (with_reducible first | exact HB.out | apply below_alloc | apply pw_below_drewN | apply below_drew1) | exact HB.out)⟩
      · rw [if_neg c10] at H
        exact absurd H (by simp)
    · rw [if_neg c8] at H
      have c8b0 : decide (a0 < 0) = false := decide_eq_false c8
      clear c8
      by_cases c12 : a0 < 10
      · rw [if_pos c12] at H
        have c12b0 : decide (a0 < 10) = true := decide_eq_true c12
        clear c12
        obtain ⟨y173, hy173⟩ : ∃ y_ : List Int, y_ = (([(wrap64 (48 + a0)) % 256] : List Int)) := ⟨_, rfl⟩
        replace H : (some (strOfNums y173)) = some r := by first | (rw [hy173]; with_reducible exact H) | (have H2_ := (Option.bind_some _ _).symm.trans H; rw [hy173]; with_reducible exact H2_) | (have H2_ := (Option.bind_some _ _).symm.trans H; with_reducible exact H2_) | with_reducible exact H | (rw [hy173]; exact H) | exact H
        have Ny173 := Aside0.mk hy173
        clear hy173
        obtain rfl := Option.some.inj H
        go_enter Tryd.func154, Tryd.ntmps154
        go_wp2_with (first | ((with_reducible refine gate_dst (N := 24) rfl ?_); refine Kd.R_lit (Kd.int .u8) _ 5 ?hg (N := 24) ?hd (xs := ([(wrap64 (48 + a0)) % 256] : List Int)) (inner := [.int .u8 ((wrap64 (48 + a0)) % 256)]) (ok := fun _ => True) (okp := fun _ => True) ?hr ?hp (fun _ hk => hk) trivial (Below.refl _ _) (Nat.le_refl _) (by simp) ?_; (case hd => rfl); (case hg => rfl); (case hr => first | (go_simp; done) | (go_simp; rfl)); (case hp => exact (Reps.one (show Kd.M (Kd.int .u8) _ _ _ ((wrap64 (48 + a0)) % 256) [.int .u8 ((wrap64 (48 + a0)) % 256)] from rfl) (Reps.none _ _))); intro v174 w13 ho14 hb hg_ hnew_; clear hg_ hnew_; (first | rw [← Ny173.out] at ho14 | (simp only [Int.reduceToNat] at ho14; rw [← Ny173.out] at ho14)); have n0_ := Aside0.mk (Kd.R_lower ho14 (below_size (by repeat (first | (with_reducible first | exact HB.out | apply below_alloc | apply pw_below_drewN | apply below_drew1) | exact HB.out)))); have n1_ := Aside0.mk (below_step (by repeat (first | (with_reducible first | exact HB.out | apply below_alloc | apply pw_below_drewN | apply below_drew1) | exact HB.out)) hb); clear HB; have HO175 := n0_; have HB := n1_; clear n0_ n1_; clear hb ho14; have hcv15 := own_string (P := Tryd.prog) Tryd.underlying131 Tryd.underlying5 Tryd.underlying9 (Kd.own_of_R HO175.out)))
        go_ret
        exact ⟨by first | rfl | (simp [errW_none, errW_some] <;> rfl) | (simp [*, errW_none, errW_some] <;> rfl), by repeat (first | (with_reducible first | exact HB.out | apply below_alloc | apply pw_below_drewN | apply below_drew1) | exact HB.out)⟩
      · rw [if_neg c12] at H
        have c12b0 : decide (a0 < 10) = false := decide_eq_false c12
        clear c12
        replace H := Option.bind_eq_some_iff.mp H
        obtain ⟨t176, A160, H⟩ := H
        replace H : ((whirligigref01_Digits.f k (Int.tmod a0 10)).bind fun t177 => (if t176.size + t177.size ≤ 9223372036854775807 then (some (t176 ++ t177)) else (none))) = some r := H
        have A16 := Aside0.mk A160
        clear A160
        replace H := Option.bind_eq_some_iff.mp H
        obtain ⟨t177, A170, H⟩ := H
        replace H : (if t176.size + t177.size ≤ 9223372036854775807 then (some (t176 ++ t177)) else (none)) = some r := H
        have A17 := Aside0.mk A170
        clear A170
        by_cases c18 : t176.size + t177.size ≤ 9223372036854775807
        · rw [if_pos c18] at H
          have c18b0 := eq_true c18
          have c18b1 : decide (t176.size + t177.size ≤ 9223372036854775807) = true := decide_eq_true c18
          try have c18b2 : (9223372036854775807 < t176.size + t177.size) = False := eq_false (Nat.not_lt.2 c18)
          obtain rfl := Option.some.inj H
          go_enter Tryd.func154, Tryd.ntmps154
          go_wp2_with (first | ((with_reducible refine gate_callee (f := 154) rfl ?_); refine goesL_ (some 28) rfl rfl Tryd.func154 (by kernel_rfl) rfl #[.int .i64 (wrap64 (Int.tdiv a0 10))] rfl (by (try simp only [List.map_toArray, List.map_cons, List.map_nil]); first | done | rfl | (simp only [List.length_drop, List.length_take]; rfl)) ?_; (with_reducible refine (ih k (by omega) (wrap64 (Int.tdiv a0 10)) t176 _ A16.out).mono ?_); rintro e w19 ⟨rfl, hb⟩; refine ⟨_, rfl, ?_⟩; have n0_ := Aside0.mk (below_step (by repeat (first | (with_reducible first | exact HB.out | apply below_alloc | apply pw_below_drewN | apply below_drew1) | exact HB.out)) hb); clear HB; have HB := n0_; clear n0_; (try clear hb); (try clear hb2); (try clear hk); (try clear hi)) | ((with_reducible refine gate_callee (f := 154) rfl ?_); refine goesL_ (some 31) rfl rfl Tryd.func154 (by kernel_rfl) rfl #[.int .i64 (Int.tmod a0 10)] rfl (by (try simp only [List.map_toArray, List.map_cons, List.map_nil]); first | done | rfl | (simp only [List.length_drop, List.length_take]; rfl)) ?_; (with_reducible refine (ih k (by omega) (Int.tmod a0 10) t177 _ A17.out).mono ?_); rintro e w20 ⟨rfl, hb⟩; refine ⟨_, rfl, ?_⟩; have n0_ := Aside0.mk (below_step (by repeat (first | (with_reducible first | exact HB.out | apply below_alloc | apply pw_below_drewN | apply below_drew1) | exact HB.out)) hb); clear HB; have HB := n0_; clear n0_; (try clear hb); (try clear hb2); (try clear hk); (try clear hi)))
          go_ret
          exact ⟨by first | rfl | (simp [errW_none, errW_some] <;> rfl) | (simp [*, errW_none, errW_some] <;> rfl), by repeat (first | (with_reducible first | exact HB.out | apply below_alloc | apply pw_below_drewN | apply below_drew1) | exact HB.out)⟩
        · rw [if_neg c18] at H
          exact absurd H (by simp)
end Go.Proofs.YtbngfhlciebeeaaDoor.L
