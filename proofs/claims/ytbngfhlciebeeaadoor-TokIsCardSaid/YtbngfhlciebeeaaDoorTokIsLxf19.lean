/- Printed and hand-written steps towards the row (TokIs), those that it reaches. -/
import Derived.Test.YtbngfhlciebeeaaDoorTokIsLx0
import Derived.Test.YtbngfhlciebeeaaDoorTokIsLxeq32
import Derived.Test.YtbngfhlciebeeaaDoorTokIsGLex
namespace Go.Proofs.YtbngfhlciebeeaaDoor.L
open Go.RowKit Go.Proofs.YtbngfhlciebeeaaDoorW.PrintWords Go.Proofs.YtbngfhlciebeeaaDoorW.PrintLast Go.Proofs.YtbngfhlciebeeaaDoorW.PrintMore
attribute [local go_sem] max2_int min2_int max_two min_two max_three min_three max_four min_four   -- for this text's walks alone
set_option linter.unusedVariables false
set_option linter.unusedSimpArgs false
attribute [local go_sem high] eqA32
def whirligiglaw02_anchor.f (k : Nat)  : Option (Bool) := (tok_Lex.f k (⟨#[120, 49, 60, 61, 97, 46, 98]⟩ : ByteArray)).bind fun bt156 => (if bt156.2.1 = 0 then (if bt156.2.2 = 0 then (if (bt156.1.length : Int) = 3 then (if 0 < (bt156.1.length : Int) then (if (((rd_T32 bt156.1 0).f0) == 1 && ((((rd_T32 bt156.1 0).f1).toList) == ([120, 49] : List UInt8) && (((rd_T32 bt156.1 0).f2) == 0 && (((rd_T32 bt156.1 0).f3) == 0)))) = true then (if 1 < (bt156.1.length : Int) then (if (((rd_T32 bt156.1 1).f0) == 5 && ((((rd_T32 bt156.1 1).f1).toList) == ([60, 61] : List UInt8) && (((rd_T32 bt156.1 1).f2) == 0 && (((rd_T32 bt156.1 1).f3) == 2)))) = true then (if 2 < (bt156.1.length : Int) then (some (((rd_T32 bt156.1 2).f0) == 2 && ((((rd_T32 bt156.1 2).f1).toList) == ([97, 46, 98] : List UInt8) && (((rd_T32 bt156.1 2).f2) == 0 && (((rd_T32 bt156.1 2).f3) == 4))))) else (none)) else (some false)) else (none)) else (some false)) else (none)) else (some false)) else (some false)) else (some false))
theorem whirligiglaw02_anchor.mono : ∀ k, LeO (whirligiglaw02_anchor.f k ) (whirligiglaw02_anchor.f (k + 1) ) := by
  intro  k
  unfold whirligiglaw02_anchor.f
  repeat' first
      | (with_reducible exact tok_Lex.mono _ _)
      | (with_reducible exact LeO.refl _)
      | (with_reducible exact LeO.none _)
      | (with_reducible refine LeO.ite ?_ ?_)
      | (with_reducible refine LeO.bind ?_ (fun _ => ?_))
      | exact tok_Lex.mono _ _
      | exact LeO.none _
      | refine LeO.ite ?_ ?_
      | refine LeO.bind ?_ (fun _ => ?_)
set_option maxHeartbeats 8000000 in
set_option maxRecDepth 100000 in
theorem whirligiglaw02_anchor.calls (k : Nat)  (r : Bool) (w : World) (hL : Laid w) (h : whirligiglaw02_anchor.f k  = some r) :
    Calls Tryd.prog 19 #[] w fun e w' => e = .returned (.bool r) ∧ Below w.heap.size w w' := by
  have hu32 := Tryd.underlying32
  have HB := Aside0.mk (Below.refl w.heap.size w)
  have HLD := Aside0.mk hL
  clear hL
  have H : ((tok_Lex.f k (⟨#[120, 49, 60, 61, 97, 46, 98]⟩ : ByteArray)).bind fun bt156 => (if bt156.2.1 = 0 then (if bt156.2.2 = 0 then (if (bt156.1.length : Int) = 3 then (if 0 < (bt156.1.length : Int) then (if (((rd_T32 bt156.1 0).f0) == 1 && ((((rd_T32 bt156.1 0).f1).toList) == ([120, 49] : List UInt8) && (((rd_T32 bt156.1 0).f2) == 0 && (((rd_T32 bt156.1 0).f3) == 0)))) = true then (if 1 < (bt156.1.length : Int) then (if (((rd_T32 bt156.1 1).f0) == 5 && ((((rd_T32 bt156.1 1).f1).toList) == ([60, 61] : List UInt8) && (((rd_T32 bt156.1 1).f2) == 0 && (((rd_T32 bt156.1 1).f3) == 2)))) = true then (if 2 < (bt156.1.length : Int) then (some (((rd_T32 bt156.1 2).f0) == 2 && ((((rd_T32 bt156.1 2).f1).toList) == ([97, 46, 98] : List UInt8) && (((rd_T32 bt156.1 2).f2) == 0 && (((rd_T32 bt156.1 2).f3) == 4))))) else (none)) else (some false)) else (none)) else (some false)) else (none)) else (some false)) else (some false)) else (some false))) = some r := h
  clear h
  replace H := Option.bind_eq_some_iff.mp H
  obtain ⟨⟨t156, t157, t158⟩, A10, H⟩ := H
  replace H : (if t157 = 0 then (if t158 = 0 then (if (t156.length : Int) = 3 then (if 0 < (t156.length : Int) then (if (((rd_T32 t156 0).f0) == 1 && ((((rd_T32 t156 0).f1).toList) == ([120, 49] : List UInt8) && (((rd_T32 t156 0).f2) == 0 && (((rd_T32 t156 0).f3) == 0)))) = true then (if 1 < (t156.length : Int) then (if (((rd_T32 t156 1).f0) == 5 && ((((rd_T32 t156 1).f1).toList) == ([60, 61] : List UInt8) && (((rd_T32 t156 1).f2) == 0 && (((rd_T32 t156 1).f3) == 2)))) = true then (if 2 < (t156.length : Int) then (some (((rd_T32 t156 2).f0) == 2 && ((((rd_T32 t156 2).f1).toList) == ([97, 46, 98] : List UInt8) && (((rd_T32 t156 2).f2) == 0 && (((rd_T32 t156 2).f3) == 4))))) else (none)) else (some false)) else (none)) else (some false)) else (none)) else (some false)) else (some false)) else (some false)) = some r := H
  have A1 := Aside0.mk A10
  clear A10
  by_cases c2 : t157 = 0
  · rw [if_pos c2] at H
    have c2b0 : (t157 == 0) = true := beq_iff_eq.mpr c2
    have c2b1 : (t157 != 0) = false := bne_eq_false_iff_eq.mpr c2
    clear c2
    by_cases c3 : t158 = 0
    · rw [if_pos c3] at H
      have c3b0 : (t158 == 0) = true := beq_iff_eq.mpr c3
      have c3b1 : (t158 != 0) = false := bne_eq_false_iff_eq.mpr c3
      clear c3
      by_cases c4 : (t156.length : Int) = 3
      · rw [if_pos c4] at H
        have c4b0 : ((t156.length : Int) == 3) = true := beq_iff_eq.mpr c4
        have c4b1 : ((t156.length : Int) != 3) = false := bne_eq_false_iff_eq.mpr c4
        clear c4
        by_cases c5 : 0 < (t156.length : Int)
        · rw [if_pos c5] at H
          have c5b0 : decide (0 < (t156.length : Int)) = true := decide_eq_true c5
          have c5b1 : decide (0 < t156.length) = true := decide_eq_true (by omega)
          clear c5
          by_cases c6 : (((rd_T32 t156 0).f0) == 1 && ((((rd_T32 t156 0).f1).toList) == ([120, 49] : List UInt8) && (((rd_T32 t156 0).f2) == 0 && (((rd_T32 t156 0).f3) == 0)))) = true
          · rw [if_pos c6] at H
            have c6b0 : (((rd_T32 t156 0).f0) == 1 && ((((rd_T32 t156 0).f1).toList) == ([120, 49] : List UInt8) && (((rd_T32 t156 0).f2) == 0 && (((rd_T32 t156 0).f3) == 0)))) = true := c6
            (try (have c6b1 : decide (((rd_T32 t156 0).f0) = 1 && ((((rd_T32 t156 0).f1).toList) == ([120, 49] : List UInt8) && (((rd_T32 t156 0).f2) == 0 && (((rd_T32 t156 0).f3) == 0)))) = true := by simpa using c6))
            (try (have c6b2 : (((rd_T32 t156 0).f0) == 1 && ((((rd_T32 t156 0).f1).toList) == ([120, 49] : List UInt8) && (((rd_T32 t156 0).f2) == 0 && (((rd_T32 t156 0).f3) == 0)))) = true := by simpa using c6))
            clear c6
            by_cases c7 : 1 < (t156.length : Int)
            · rw [if_pos c7] at H
              have c7b0 : decide (1 < (t156.length : Int)) = true := decide_eq_true c7
              have c7b1 : decide (1 < t156.length) = true := decide_eq_true (by omega)
              clear c7
              by_cases c8 : (((rd_T32 t156 1).f0) == 5 && ((((rd_T32 t156 1).f1).toList) == ([60, 61] : List UInt8) && (((rd_T32 t156 1).f2) == 0 && (((rd_T32 t156 1).f3) == 2)))) = true
              · rw [if_pos c8] at H
                have c8b0 : (((rd_T32 t156 1).f0) == 5 && ((((rd_T32 t156 1).f1).toList) == ([60, 61] : List UInt8) && (((rd_T32 t156 1).f2) == 0 && (((rd_T32 t156 1).f3) == 2)))) = true := c8
                (try (have c8b1 : decide (((rd_T32 t156 1).f0) = 5 && ((((rd_T32 t156 1).f1).toList) == ([60, 61] : List UInt8) && (((rd_T32 t156 1).f2) == 0 && (((rd_T32 t156 1).f3) == 2)))) = true := by simpa using c8))
                (try (have c8b2 : (((rd_T32 t156 1).f0) == 5 && ((((rd_T32 t156 1).f1).toList) == ([60, 61] : List UInt8) && (((rd_T32 t156 1).f2) == 0 && (((rd_T32 t156 1).f3) == 2)))) = true := by simpa using c8))
                clear c8
                by_cases c9 : 2 < (t156.length : Int)
                · rw [if_pos c9] at H
                  have c9b0 : decide (2 < (t156.length : Int)) = true := decide_eq_true c9
                  have c9b1 : decide (2 < t156.length) = true := decide_eq_true (by omega)
                  clear c9
                  obtain rfl := Option.some.inj H
                  go_enter Tryd.func19, Tryd.ntmps19
                  go_wp2_with (first | ((with_reducible refine gate_callee (f := 20) rfl ?_); refine goesL_ (some 5) rfl rfl Tryd.func20 (by kernel_rfl) rfl #[.string (⟨#[120, 49, 60, 61, 97, 46, 98]⟩ : ByteArray)] rfl (by (try simp only [List.map_toArray, List.map_cons, List.map_nil]); first | done | rfl | (simp only [List.length_drop, List.length_take]; rfl)) ?_; (with_reducible refine (tok_Lex.calls k (⟨#[120, 49, 60, 61, 97, 46, 98]⟩ : ByteArray) t156 t157 t158 _ ?side1 A1.out).mono ?_); (case side1 => exact Laid.below HLD.out (by repeat (first | (with_reducible first | exact HB.out | apply below_alloc | apply pw_below_drewN | apply below_drew1) | exact HB.out))); rintro e w10 ⟨v159, rfl, ho0, hb⟩; refine ⟨_, rfl, ?_⟩; have n0_ := Aside0.mk (Kd.R_lower ho0 (below_size (by repeat (first | (with_reducible first | exact HB.out | apply below_alloc | apply pw_below_drewN | apply below_drew1) | exact HB.out)))); have n1_ := Aside0.mk (below_step (by repeat (first | (with_reducible first | exact HB.out | apply below_alloc | apply pw_below_drewN | apply below_drew1) | exact HB.out)) hb); clear HB; have HO160 := n0_; have HB := n1_; clear n0_ n1_; (try clear hb); (try clear hb2); (try clear hk); (try clear hi); (try clear ho0); obtain ⟨Ao11, co11, eo11⟩ := Kd.R_slice HO160.out; subst eo11; have p161 : 0 ≤ (0 : Int) := (by omega); have q161 : 0 < (t156.length : Int) := of_decide_eq_true (by first | (with_reducible assumption) | assumption); obtain ⟨ad161, e161, hx161_0, hx161_1, hx161_2, hx161_3⟩ := at_T32 (Kd.R_reads' HO160.out).2.2 0 p161 q161; cases e161; have qi161 : (0 < t156.length) = True := eq_true (by omega); (try rw [show ((0 : Int)).toNat = 0 from rfl] at hx161_0); (try rw [show 0 * 4 = 0 from rfl] at hx161_0); (try rw [Addr.add_zero'] at hx161_0); (try rw [show ((0 : Int)).toNat = 0 from rfl] at hx161_1); (try rw [show 0 * 4 = 0 from rfl] at hx161_1); (try rw [Addr.add_zero'] at hx161_1); (try rw [show ((0 : Int)).toNat = 0 from rfl] at hx161_2); (try rw [show 0 * 4 = 0 from rfl] at hx161_2); (try rw [Addr.add_zero'] at hx161_2); (try rw [show ((0 : Int)).toNat = 0 from rfl] at hx161_3); (try rw [show 0 * 4 = 0 from rfl] at hx161_3); (try rw [Addr.add_zero'] at hx161_3); replace p161 := eq_true p161; replace q161 := eq_true q161; have p162 : 0 ≤ (1 : Int) := (by omega); have q162 : 1 < (t156.length : Int) := of_decide_eq_true (by first | (with_reducible assumption) | assumption); obtain ⟨ad162, e162, hx162_0, hx162_1, hx162_2, hx162_3⟩ := at_T32 (Kd.R_reads' HO160.out).2.2 1 p162 q162; obtain rfl : ad161 = ad162 := (by injection e162); (try simp only [show (1 : Int).toNat = 1 from rfl, Nat.reduceMul, Nat.reduceEqDiff, Go.Addr.add, ↓reduceIte] at hx162_0); (try simp only [show (1 : Int).toNat = 1 from rfl, Nat.reduceMul, Nat.reduceEqDiff, Go.Addr.add, ↓reduceIte] at hx162_1); (try simp only [show (1 : Int).toNat = 1 from rfl, Nat.reduceMul, Nat.reduceEqDiff, Go.Addr.add, ↓reduceIte] at hx162_2); (try simp only [show (1 : Int).toNat = 1 from rfl, Nat.reduceMul, Nat.reduceEqDiff, Go.Addr.add, ↓reduceIte] at hx162_3); have qi162 : (1 < t156.length) = True := eq_true (by omega); (try rw [show ((1 : Int)).toNat = 1 from rfl] at hx162_0); (try rw [show 1 * 4 = 4 from rfl] at hx162_0); (try rw [show ((1 : Int)).toNat = 1 from rfl] at hx162_1); (try rw [show 1 * 4 = 4 from rfl] at hx162_1); (try rw [show ((1 : Int)).toNat = 1 from rfl] at hx162_2); (try rw [show 1 * 4 = 4 from rfl] at hx162_2); (try rw [show ((1 : Int)).toNat = 1 from rfl] at hx162_3); (try rw [show 1 * 4 = 4 from rfl] at hx162_3); replace p162 := eq_true p162; replace q162 := eq_true q162; have p163 : 0 ≤ (2 : Int) := (by omega); have q163 : 2 < (t156.length : Int) := of_decide_eq_true (by first | (with_reducible assumption) | assumption); obtain ⟨ad163, e163, hx163_0, hx163_1, hx163_2, hx163_3⟩ := at_T32 (Kd.R_reads' HO160.out).2.2 2 p163 q163; obtain rfl : ad161 = ad163 := (by injection e163); (try simp only [show (2 : Int).toNat = 2 from rfl, Nat.reduceMul, Nat.reduceEqDiff, Go.Addr.add, ↓reduceIte] at hx163_0); (try simp only [show (2 : Int).toNat = 2 from rfl, Nat.reduceMul, Nat.reduceEqDiff, Go.Addr.add, ↓reduceIte] at hx163_1); (try simp only [show (2 : Int).toNat = 2 from rfl, Nat.reduceMul, Nat.reduceEqDiff, Go.Addr.add, ↓reduceIte] at hx163_2); (try simp only [show (2 : Int).toNat = 2 from rfl, Nat.reduceMul, Nat.reduceEqDiff, Go.Addr.add, ↓reduceIte] at hx163_3); have qi163 : (2 < t156.length) = True := eq_true (by omega); (try rw [show ((2 : Int)).toNat = 2 from rfl] at hx163_0); (try rw [show 2 * 4 = 8 from rfl] at hx163_0); (try rw [show ((2 : Int)).toNat = 2 from rfl] at hx163_1); (try rw [show 2 * 4 = 8 from rfl] at hx163_1); (try rw [show ((2 : Int)).toNat = 2 from rfl] at hx163_2); (try rw [show 2 * 4 = 8 from rfl] at hx163_2); (try rw [show ((2 : Int)).toNat = 2 from rfl] at hx163_3); (try rw [show 2 * 4 = 8 from rfl] at hx163_3); replace p163 := eq_true p163; replace q163 := eq_true q163))
                  go_ret
                  exact ⟨by first | rfl | (simp [errW_none, errW_some] <;> rfl) | (simp [*, errW_none, errW_some] <;> rfl), by repeat (first | (with_reducible first | exact HB.out | apply below_alloc | apply pw_below_drewN | apply below_drew1) | exact HB.out)⟩
                · rw [if_neg c9] at H
                  exact absurd H (by simp)
              · rw [if_neg c8] at H
                have c8b0 : (((rd_T32 t156 1).f0) == 5 && ((((rd_T32 t156 1).f1).toList) == ([60, 61] : List UInt8) && (((rd_T32 t156 1).f2) == 0 && (((rd_T32 t156 1).f3) == 2)))) = false := by simpa using c8
                (try (have c8b1 : decide (((rd_T32 t156 1).f0) = 5 && ((((rd_T32 t156 1).f1).toList) == ([60, 61] : List UInt8) && (((rd_T32 t156 1).f2) == 0 && (((rd_T32 t156 1).f3) == 2)))) = false := by simpa using c8))
                (try (have c8b2 : (((rd_T32 t156 1).f0) == 5 && ((((rd_T32 t156 1).f1).toList) == ([60, 61] : List UInt8) && (((rd_T32 t156 1).f2) == 0 && (((rd_T32 t156 1).f3) == 2)))) = false := by simpa using c8))
                (try (have c8b3 : ¬ (((rd_T32 t156 1).f0) = 5 && ((((rd_T32 t156 1).f1).toList) == ([60, 61] : List UInt8) && (((rd_T32 t156 1).f2) == 0 && (((rd_T32 t156 1).f3) == 2)))) := by simpa using c8))
                clear c8
                obtain rfl := Option.some.inj H
                go_enter Tryd.func19, Tryd.ntmps19
                go_wp2_with (first | ((with_reducible refine gate_callee (f := 20) rfl ?_); refine goesL_ (some 5) rfl rfl Tryd.func20 (by kernel_rfl) rfl #[.string (⟨#[120, 49, 60, 61, 97, 46, 98]⟩ : ByteArray)] rfl (by (try simp only [List.map_toArray, List.map_cons, List.map_nil]); first | done | rfl | (simp only [List.length_drop, List.length_take]; rfl)) ?_; (with_reducible refine (tok_Lex.calls k (⟨#[120, 49, 60, 61, 97, 46, 98]⟩ : ByteArray) t156 t157 t158 _ ?side1 A1.out).mono ?_); (case side1 => exact Laid.below HLD.out (by repeat (first | (with_reducible first | exact HB.out | apply below_alloc | apply pw_below_drewN | apply below_drew1) | exact HB.out))); rintro e w12 ⟨v159, rfl, ho0, hb⟩; refine ⟨_, rfl, ?_⟩; have n0_ := Aside0.mk (Kd.R_lower ho0 (below_size (by repeat (first | (with_reducible first | exact HB.out | apply below_alloc | apply pw_below_drewN | apply below_drew1) | exact HB.out)))); have n1_ := Aside0.mk (below_step (by repeat (first | (with_reducible first | exact HB.out | apply below_alloc | apply pw_below_drewN | apply below_drew1) | exact HB.out)) hb); clear HB; have HO160 := n0_; have HB := n1_; clear n0_ n1_; (try clear hb); (try clear hb2); (try clear hk); (try clear hi); (try clear ho0); obtain ⟨Ao13, co13, eo13⟩ := Kd.R_slice HO160.out; subst eo13; have p161 : 0 ≤ (0 : Int) := (by omega); have q161 : 0 < (t156.length : Int) := of_decide_eq_true (by first | (with_reducible assumption) | assumption); obtain ⟨ad161, e161, hx161_0, hx161_1, hx161_2, hx161_3⟩ := at_T32 (Kd.R_reads' HO160.out).2.2 0 p161 q161; cases e161; have qi161 : (0 < t156.length) = True := eq_true (by omega); (try rw [show ((0 : Int)).toNat = 0 from rfl] at hx161_0); (try rw [show 0 * 4 = 0 from rfl] at hx161_0); (try rw [Addr.add_zero'] at hx161_0); (try rw [show ((0 : Int)).toNat = 0 from rfl] at hx161_1); (try rw [show 0 * 4 = 0 from rfl] at hx161_1); (try rw [Addr.add_zero'] at hx161_1); (try rw [show ((0 : Int)).toNat = 0 from rfl] at hx161_2); (try rw [show 0 * 4 = 0 from rfl] at hx161_2); (try rw [Addr.add_zero'] at hx161_2); (try rw [show ((0 : Int)).toNat = 0 from rfl] at hx161_3); (try rw [show 0 * 4 = 0 from rfl] at hx161_3); (try rw [Addr.add_zero'] at hx161_3); replace p161 := eq_true p161; replace q161 := eq_true q161; have p162 : 0 ≤ (1 : Int) := (by omega); have q162 : 1 < (t156.length : Int) := of_decide_eq_true (by first | (with_reducible assumption) | assumption); obtain ⟨ad162, e162, hx162_0, hx162_1, hx162_2, hx162_3⟩ := at_T32 (Kd.R_reads' HO160.out).2.2 1 p162 q162; obtain rfl : ad161 = ad162 := (by injection e162); (try simp only [show (1 : Int).toNat = 1 from rfl, Nat.reduceMul, Nat.reduceEqDiff, Go.Addr.add, ↓reduceIte] at hx162_0); (try simp only [show (1 : Int).toNat = 1 from rfl, Nat.reduceMul, Nat.reduceEqDiff, Go.Addr.add, ↓reduceIte] at hx162_1); (try simp only [show (1 : Int).toNat = 1 from rfl, Nat.reduceMul, Nat.reduceEqDiff, Go.Addr.add, ↓reduceIte] at hx162_2); (try simp only [show (1 : Int).toNat = 1 from rfl, Nat.reduceMul, Nat.reduceEqDiff, Go.Addr.add, ↓reduceIte] at hx162_3); have qi162 : (1 < t156.length) = True := eq_true (by omega); (try rw [show ((1 : Int)).toNat = 1 from rfl] at hx162_0); (try rw [show 1 * 4 = 4 from rfl] at hx162_0); (try rw [show ((1 : Int)).toNat = 1 from rfl] at hx162_1); (try rw [show 1 * 4 = 4 from rfl] at hx162_1); (try rw [show ((1 : Int)).toNat = 1 from rfl] at hx162_2); (try rw [show 1 * 4 = 4 from rfl] at hx162_2); (try rw [show ((1 : Int)).toNat = 1 from rfl] at hx162_3); (try rw [show 1 * 4 = 4 from rfl] at hx162_3); replace p162 := eq_true p162; replace q162 := eq_true q162))
                go_ret
                exact ⟨by first | rfl | (simp [errW_none, errW_some] <;> rfl) | (simp [*, errW_none, errW_some] <;> rfl), by repeat (first | (with_reducible first | exact HB.out | apply below_alloc | apply pw_below_drewN | apply below_drew1) | exact HB.out)⟩
            · rw [if_neg c7] at H
              exact absurd H (by simp)
          · rw [if_neg c6] at H
            have c6b0 : (((rd_T32 t156 0).f0) == 1 && ((((rd_T32 t156 0).f1).toList) == ([120, 49] : List UInt8) && (((rd_T32 t156 0).f2) == 0 && (((rd_T32 t156 0).f3) == 0)))) = false := by simpa using c6
            (try (have c6b1 : decide (((rd_T32 t156 0).f0) = 1 && ((((rd_T32 t156 0).f1).toList) == ([120, 49] : List UInt8) && (((rd_T32 t156 0).f2) == 0 && (((rd_T32 t156 0).f3) == 0)))) = false := by simpa using c6))
            (try (have c6b2 : (((rd_T32 t156 0).f0) == 1 && ((((rd_T32 t156 0).f1).toList) == ([120, 49] : List UInt8) && (((rd_T32 t156 0).f2) == 0 && (((rd_T32 t156 0).f3) == 0)))) = false := by simpa using c6))
            (try (have c6b3 : ¬ (((rd_T32 t156 0).f0) = 1 && ((((rd_T32 t156 0).f1).toList) == ([120, 49] : List UInt8) && (((rd_T32 t156 0).f2) == 0 && (((rd_T32 t156 0).f3) == 0)))) := by simpa using c6))
            clear c6
            obtain rfl := Option.some.inj H
            go_enter Tryd.func19, Tryd.ntmps19
            go_wp2_with (first | ((with_reducible refine gate_callee (f := 20) rfl ?_); refine goesL_ (some 5) rfl rfl Tryd.func20 (by kernel_rfl) rfl #[.string (⟨#[120, 49, 60, 61, 97, 46, 98]⟩ : ByteArray)] rfl (by (try simp only [List.map_toArray, List.map_cons, List.map_nil]); first | done | rfl | (simp only [List.length_drop, List.length_take]; rfl)) ?_; (with_reducible refine (tok_Lex.calls k (⟨#[120, 49, 60, 61, 97, 46, 98]⟩ : ByteArray) t156 t157 t158 _ ?side1 A1.out).mono ?_); (case side1 => exact Laid.below HLD.out (by repeat (first | (with_reducible first | exact HB.out | apply below_alloc | apply pw_below_drewN | apply below_drew1) | exact HB.out))); rintro e w14 ⟨v159, rfl, ho0, hb⟩; refine ⟨_, rfl, ?_⟩; have n0_ := Aside0.mk (Kd.R_lower ho0 (below_size (by repeat (first | (with_reducible first | exact HB.out | apply below_alloc | apply pw_below_drewN | apply below_drew1) | exact HB.out)))); have n1_ := Aside0.mk (below_step (by repeat (first | (with_reducible first | exact HB.out | apply below_alloc | apply pw_below_drewN | apply below_drew1) | exact HB.out)) hb); clear HB; have HO160 := n0_; have HB := n1_; clear n0_ n1_; (try clear hb); (try clear hb2); (try clear hk); (try clear hi); (try clear ho0); obtain ⟨Ao15, co15, eo15⟩ := Kd.R_slice HO160.out; subst eo15; have p161 : 0 ≤ (0 : Int) := (by omega); have q161 : 0 < (t156.length : Int) := of_decide_eq_true (by first | (with_reducible assumption) | assumption); obtain ⟨ad161, e161, hx161_0, hx161_1, hx161_2, hx161_3⟩ := at_T32 (Kd.R_reads' HO160.out).2.2 0 p161 q161; cases e161; have qi161 : (0 < t156.length) = True := eq_true (by omega); (try rw [show ((0 : Int)).toNat = 0 from rfl] at hx161_0); (try rw [show 0 * 4 = 0 from rfl] at hx161_0); (try rw [Addr.add_zero'] at hx161_0); (try rw [show ((0 : Int)).toNat = 0 from rfl] at hx161_1); (try rw [show 0 * 4 = 0 from rfl] at hx161_1); (try rw [Addr.add_zero'] at hx161_1); (try rw [show ((0 : Int)).toNat = 0 from rfl] at hx161_2); (try rw [show 0 * 4 = 0 from rfl] at hx161_2); (try rw [Addr.add_zero'] at hx161_2); (try rw [show ((0 : Int)).toNat = 0 from rfl] at hx161_3); (try rw [show 0 * 4 = 0 from rfl] at hx161_3); (try rw [Addr.add_zero'] at hx161_3); replace p161 := eq_true p161; replace q161 := eq_true q161))
            go_ret
            exact ⟨by first | rfl | (simp [errW_none, errW_some] <;> rfl) | (simp [*, errW_none, errW_some] <;> rfl), by repeat (first | (with_reducible first | exact HB.out | apply below_alloc | apply pw_below_drewN | apply below_drew1) | exact HB.out)⟩
        · rw [if_neg c5] at H
          exact absurd H (by simp)
      · rw [if_neg c4] at H
        have c4b0 : ((t156.length : Int) == 3) = false := beq_eq_false_iff_ne.mpr c4
        have c4b1 : ((t156.length : Int) != 3) = true := bne_iff_ne.mpr c4
        obtain rfl := Option.some.inj H
        go_enter Tryd.func19, Tryd.ntmps19
        go_wp2_with (first | ((with_reducible refine gate_callee (f := 20) rfl ?_); refine goesL_ (some 5) rfl rfl Tryd.func20 (by kernel_rfl) rfl #[.string (⟨#[120, 49, 60, 61, 97, 46, 98]⟩ : ByteArray)] rfl (by (try simp only [List.map_toArray, List.map_cons, List.map_nil]); first | done | rfl | (simp only [List.length_drop, List.length_take]; rfl)) ?_; (with_reducible refine (tok_Lex.calls k (⟨#[120, 49, 60, 61, 97, 46, 98]⟩ : ByteArray) t156 t157 t158 _ ?side1 A1.out).mono ?_); (case side1 => exact Laid.below HLD.out (by repeat (first | (with_reducible first | exact HB.out | apply below_alloc | apply pw_below_drewN | apply below_drew1) | exact HB.out))); rintro e w16 ⟨v159, rfl, ho0, hb⟩; refine ⟨_, rfl, ?_⟩; have n0_ := Aside0.mk (Kd.R_lower ho0 (below_size (by repeat (first | (with_reducible first | exact HB.out | apply below_alloc | apply pw_below_drewN | apply below_drew1) | exact HB.out)))); have n1_ := Aside0.mk (below_step (by repeat (first | (with_reducible first | exact HB.out | apply below_alloc | apply pw_below_drewN | apply below_drew1) | exact HB.out)) hb); clear HB; have HO160 := n0_; have HB := n1_; clear n0_ n1_; (try clear hb); (try clear hb2); (try clear hk); (try clear hi); (try clear ho0); obtain ⟨Ao17, co17, eo17⟩ := Kd.R_slice HO160.out; subst eo17))
        go_ret
        exact ⟨by first | rfl | (simp [errW_none, errW_some] <;> rfl) | (simp [*, errW_none, errW_some] <;> rfl), by repeat (first | (with_reducible first | exact HB.out | apply below_alloc | apply pw_below_drewN | apply below_drew1) | exact HB.out)⟩
    · rw [if_neg c3] at H
      have c3b0 : (t158 == 0) = false := beq_eq_false_iff_ne.mpr c3
      have c3b1 : (t158 != 0) = true := bne_iff_ne.mpr c3
      obtain rfl := Option.some.inj H
      go_enter Tryd.func19, Tryd.ntmps19
      go_wp2_with (first | ((with_reducible refine gate_callee (f := 20) rfl ?_); refine goesL_ (some 5) rfl rfl Tryd.func20 (by kernel_rfl) rfl #[.string (⟨#[120, 49, 60, 61, 97, 46, 98]⟩ : ByteArray)] rfl (by (try simp only [List.map_toArray, List.map_cons, List.map_nil]); first | done | rfl | (simp only [List.length_drop, List.length_take]; rfl)) ?_; (with_reducible refine (tok_Lex.calls k (⟨#[120, 49, 60, 61, 97, 46, 98]⟩ : ByteArray) t156 t157 t158 _ ?side1 A1.out).mono ?_); (case side1 => exact Laid.below HLD.out (by repeat (first | (with_reducible first | exact HB.out | apply below_alloc | apply pw_below_drewN | apply below_drew1) | exact HB.out))); rintro e w18 ⟨v159, rfl, ho0, hb⟩; refine ⟨_, rfl, ?_⟩; have n0_ := Aside0.mk (Kd.R_lower ho0 (below_size (by repeat (first | (with_reducible first | exact HB.out | apply below_alloc | apply pw_below_drewN | apply below_drew1) | exact HB.out)))); have n1_ := Aside0.mk (below_step (by repeat (first | (with_reducible first | exact HB.out | apply below_alloc | apply pw_below_drewN | apply below_drew1) | exact HB.out)) hb); clear HB; have HO160 := n0_; have HB := n1_; clear n0_ n1_; (try clear hb); (try clear hb2); (try clear hk); (try clear hi); (try clear ho0)))
      go_ret
      exact ⟨by first | rfl | (simp [errW_none, errW_some] <;> rfl) | (simp [*, errW_none, errW_some] <;> rfl), by repeat (first | (with_reducible first | exact HB.out | apply below_alloc | apply pw_below_drewN | apply below_drew1) | exact HB.out)⟩
  · rw [if_neg c2] at H
    have c2b0 : (t157 == 0) = false := beq_eq_false_iff_ne.mpr c2
    have c2b1 : (t157 != 0) = true := bne_iff_ne.mpr c2
    obtain rfl := Option.some.inj H
    go_enter Tryd.func19, Tryd.ntmps19
    go_wp2_with (first | ((with_reducible refine gate_callee (f := 20) rfl ?_); refine goesL_ (some 5) rfl rfl Tryd.func20 (by kernel_rfl) rfl #[.string (⟨#[120, 49, 60, 61, 97, 46, 98]⟩ : ByteArray)] rfl (by (try simp only [List.map_toArray, List.map_cons, List.map_nil]); first | done | rfl | (simp only [List.length_drop, List.length_take]; rfl)) ?_; (with_reducible refine (tok_Lex.calls k (⟨#[120, 49, 60, 61, 97, 46, 98]⟩ : ByteArray) t156 t157 t158 _ ?side1 A1.out).mono ?_); (case side1 => exact Laid.below HLD.out (by repeat (first | (with_reducible first | exact HB.out | apply below_alloc | apply pw_below_drewN | apply below_drew1) | exact HB.out))); rintro e w19 ⟨v159, rfl, ho0, hb⟩; refine ⟨_, rfl, ?_⟩; have n0_ := Aside0.mk (Kd.R_lower ho0 (below_size (by repeat (first | (with_reducible first | exact HB.out | apply below_alloc | apply pw_below_drewN | apply below_drew1) | exact HB.out)))); have n1_ := Aside0.mk (below_step (by repeat (first | (with_reducible first | exact HB.out | apply below_alloc | apply pw_below_drewN | apply below_drew1) | exact HB.out)) hb); clear HB; have HO160 := n0_; have HB := n1_; clear n0_ n1_; (try clear hb); (try clear hb2); (try clear hk); (try clear hi); (try clear ho0)))
    go_ret
    exact ⟨by first | rfl | (simp [errW_none, errW_some] <;> rfl) | (simp [*, errW_none, errW_some] <;> rfl), by repeat (first | (with_reducible first | exact HB.out | apply below_alloc | apply pw_below_drewN | apply below_drew1) | exact HB.out)⟩
def whirligigref02_letter.f (a0 : Int) : Option (Bool) := if a0 ≥ 97 then (some (decide (a0 ≤ 122))) else (some false)
def whirligigref02_inner.f (a0 : Int) : Option (Bool) := (whirligigref02_letter.f a0).bind fun t164 => (if t164 = true then (some true) else (if a0 ≥ 48 then (if a0 ≤ 57 then (some true) else (some (a0 == 95))) else (some (a0 == 95))))
def whirligigref02_word.l0 : Nat → ByteArray → Int → Int → Option (Int)
  | 0, _, _, _ => none
  | k + 1, x0, x1, x5 => if (wrap64 (x1 + x5)) < (x0.size : Int) then (if 0 ≤ (wrap64 (x1 + x5)) then ((whirligigref02_inner.f (bt x0 (wrap64 (x1 + x5)))).bind fun t165 => (if t165 = true then (whirligigref02_word.l0 k x0 x1 (wrap64 (x5 + 1))) else (some x5))) else (none)) else (some x5)
def whirligigref02_word.f (k : Nat) (a0 : ByteArray) (a1 : Int) : Option (Int) := whirligigref02_word.l0 k a0 a1 0
theorem whirligigref02_word.mono_l : ∀ k, (∀ y0 y1 y2, LeO (whirligigref02_word.l0 k y0 y1 y2) (whirligigref02_word.l0 (k + 1) y0 y1 y2))
  | 0 => fun _ _ _ r h => by simp [whirligigref02_word.l0] at h
  | k + 1 => by
    have ih0 := whirligigref02_word.mono_l k
    · intro y0 y1 y2
      unfold whirligigref02_word.l0
      repeat' first
      | (with_reducible exact ih0 _ _ _)
      | (with_reducible exact LeO.refl _)
      | (with_reducible exact LeO.none _)
      | (with_reducible refine LeO.ite ?_ ?_)
      | (with_reducible refine LeO.bind ?_ (fun _ => ?_))
      | exact ih0 _ _ _
      | exact LeO.none _
      | refine LeO.ite ?_ ?_
      | refine LeO.bind ?_ (fun _ => ?_)
theorem whirligigref02_word.mono : ∀ a0 a1 k, LeO (whirligigref02_word.f k a0 a1) (whirligigref02_word.f (k + 1) a0 a1) := by
  intro a0 a1 k
  have ih0 := whirligigref02_word.mono_l k
  unfold whirligigref02_word.f
  repeat' first
      | (with_reducible exact ih0 _ _ _)
      | (with_reducible exact LeO.refl _)
      | (with_reducible exact LeO.none _)
      | (with_reducible refine LeO.ite ?_ ?_)
      | (with_reducible refine LeO.bind ?_ (fun _ => ?_))
      | exact ih0 _ _ _
      | exact LeO.none _
      | refine LeO.ite ?_ ?_
      | refine LeO.bind ?_ (fun _ => ?_)
def whirligigref02_path.l0 : Nat → ByteArray → Int → Int → Int → Bool → Option (Int × ByteArray × Int × Int × Int × Int)
  | 0, _, _, _, _, _ => none
  | k + 1, x0, x1, x8, x9, x10 => if x10 = true then (some (0, (⟨#[]⟩ : ByteArray), 0, 0, x1, 15)) else (if (wrap64 (x8 + 1)) < (x0.size : Int) then (if 0 ≤ x8 then (if x8 < (x0.size : Int) then (if (bt x0 x8) = 46 then (if 0 ≤ (wrap64 (x8 + 1)) then ((whirligigref02_letter.f (bt x0 (wrap64 (x8 + 1)))).bind fun t168 => (if t168 = true then ((whirligigref02_word.f k x0 (wrap64 (x8 + 1))).bind fun t169 => (whirligigref02_path.l0 k x0 x1 (wrap64 ((wrap64 (x8 + 1)) + t169)) 2 (decide (t169 > 16)))) else (if (wrap64 (x8 - x1)) > 32 then (some (0, (⟨#[]⟩ : ByteArray), 0, 0, x1, 15)) else (if 0 ≤ x1 then (if x1 ≤ x8 then (if x8 ≤ (x0.size : Int) then (some (x9, x0.extract (x1 : Int).toNat (x8 : Int).toNat, 0, x1, x8, 0)) else (none)) else (none)) else (none))))) else (none)) else (if (wrap64 (x8 - x1)) > 32 then (some (0, (⟨#[]⟩ : ByteArray), 0, 0, x1, 15)) else (if 0 ≤ x1 then (if x1 ≤ x8 then (if x8 ≤ (x0.size : Int) then (some (x9, x0.extract (x1 : Int).toNat (x8 : Int).toNat, 0, x1, x8, 0)) else (none)) else (none)) else (none)))) else (none)) else (none)) else (if (wrap64 (x8 - x1)) > 32 then (some (0, (⟨#[]⟩ : ByteArray), 0, 0, x1, 15)) else (if 0 ≤ x1 then (if x1 ≤ x8 then (if x8 ≤ (x0.size : Int) then (some (x9, x0.extract (x1 : Int).toNat (x8 : Int).toNat, 0, x1, x8, 0)) else (none)) else (none)) else (none))))
def whirligigref02_path.f (k : Nat) (a0 : ByteArray) (a1 : Int) : Option (Int × ByteArray × Int × Int × Int × Int) := (whirligigref02_word.f k a0 a1).bind fun t167 => (whirligigref02_path.l0 k a0 a1 (wrap64 (a1 + t167)) 1 (decide (t167 > 16)))
theorem whirligigref02_path.mono_l : ∀ k, (∀ y0 y1 y2 y3 y4, LeO (whirligigref02_path.l0 k y0 y1 y2 y3 y4) (whirligigref02_path.l0 (k + 1) y0 y1 y2 y3 y4))
  | 0 => fun _ _ _ _ _ r h => by simp [whirligigref02_path.l0] at h
  | k + 1 => by
    have ih0 := whirligigref02_path.mono_l k
    · intro y0 y1 y2 y3 y4
      unfold whirligigref02_path.l0
      repeat' first
      | (with_reducible exact ih0 _ _ _ _ _)
      | (with_reducible exact whirligigref02_word.mono _ _ _)
      | (with_reducible exact LeO.refl _)
      | (with_reducible exact LeO.none _)
      | (with_reducible refine LeO.ite ?_ ?_)
      | (with_reducible refine LeO.bind ?_ (fun _ => ?_))
      | exact ih0 _ _ _ _ _
      | exact whirligigref02_word.mono _ _ _
      | exact LeO.none _
      | refine LeO.ite ?_ ?_
      | refine LeO.bind ?_ (fun _ => ?_)
theorem whirligigref02_path.mono : ∀ a0 a1 k, LeO (whirligigref02_path.f k a0 a1) (whirligigref02_path.f (k + 1) a0 a1) := by
  intro a0 a1 k
  have ih0 := whirligigref02_path.mono_l k
  unfold whirligigref02_path.f
  repeat' first
      | (with_reducible exact ih0 _ _ _ _ _)
      | (with_reducible exact whirligigref02_word.mono _ _ _)
      | (with_reducible exact LeO.refl _)
      | (with_reducible exact LeO.none _)
      | (with_reducible refine LeO.ite ?_ ?_)
      | (with_reducible refine LeO.bind ?_ (fun _ => ?_))
      | exact ih0 _ _ _ _ _
      | exact whirligigref02_word.mono _ _ _
      | exact LeO.none _
      | refine LeO.ite ?_ ?_
      | refine LeO.bind ?_ (fun _ => ?_)
def whirligigref01_Digits.f : Nat → Int → Option (ByteArray)
  | 0, _ => none
  | k + 1, a0 => if a0 ≤ (-10) then ((whirligigref01_Digits.f k (wrap64 (Int.tdiv a0 10))).bind fun t170 => ((whirligigref01_Digits.f k (wrap64 (-(Int.tmod a0 10)))).bind fun t171 => (if t170.size + t171.size ≤ 9223372036854775807 then (some (t170 ++ t171)) else (none)))) else (if a0 < 0 then ((whirligigref01_Digits.f k (wrap64 (-a0))).bind fun t172 => (if 1 + t172.size ≤ 9223372036854775807 then (some ((⟨#[45]⟩ : ByteArray) ++ t172)) else (none))) else (if a0 < 10 then (some (strOfNums (([(wrap64 (48 + a0)) % 256] : List Int)))) else ((whirligigref01_Digits.f k (wrap64 (Int.tdiv a0 10))).bind fun t176 => ((whirligigref01_Digits.f k (Int.tmod a0 10)).bind fun t177 => (if t176.size + t177.size ≤ 9223372036854775807 then (some (t176 ++ t177)) else (none))))))
theorem whirligigref01_Digits.mono_l : ∀ k, (∀ y0, LeO (whirligigref01_Digits.f k y0) (whirligigref01_Digits.f (k + 1) y0))
  | 0 => fun _ r h => by simp [whirligigref01_Digits.f] at h
  | k + 1 => by
    have ih0 := whirligigref01_Digits.mono_l k
    · intro y0
      unfold whirligigref01_Digits.f
      repeat' first
      | (with_reducible exact ih0 _)
      | (with_reducible exact LeO.refl _)
      | (with_reducible exact LeO.none _)
      | (with_reducible refine LeO.ite ?_ ?_)
      | (with_reducible refine LeO.bind ?_ (fun _ => ?_))
      | exact ih0 _
      | exact LeO.none _
      | refine LeO.ite ?_ ?_
      | refine LeO.bind ?_ (fun _ => ?_)
theorem whirligigref01_Digits.mono : ∀ a0 k, LeO (whirligigref01_Digits.f k a0) (whirligigref01_Digits.f (k + 1) a0) := by
  intro a0 k
  have ih0 := whirligigref01_Digits.mono_l k
  exact ih0 a0
end Go.Proofs.YtbngfhlciebeeaaDoor.L
