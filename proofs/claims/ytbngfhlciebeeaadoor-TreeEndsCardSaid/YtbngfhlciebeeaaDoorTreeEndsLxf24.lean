/- Printed and hand-written steps towards the row (TreeEnds), those that it reaches. -/
import Derived.Test.YtbngfhlciebeeaaDoorTreeEndsG5
import Derived.Test.YtbngfhlciebeeaaDoorTreeEndsG6
import Derived.Test.YtbngfhlciebeeaaDoorTreeEndsG13
namespace Go.Proofs.YtbngfhlciebeeaaDoor.L
open Go.RowKit Go.Proofs.YtbngfhlciebeeaaDoorW.PrintWords Go.Proofs.YtbngfhlciebeeaaDoorW.PrintLast Go.Proofs.YtbngfhlciebeeaaDoorW.PrintMore
attribute [local go_sem] max2_int min2_int max_two min_two max_three min_three max_four min_four   -- for this text's walks alone
set_option linter.unusedVariables false
set_option linter.unusedSimpArgs false
def tok_Event.f (k : Nat) (a0 : ByteArray) : Option (Bool) := (tok_Lex.f k a0).bind fun bt252 => (if bt252.2.1 = 0 then (if (bt252.1.length : Int) = 1 then (if 0 < (bt252.1.length : Int) then (if ((rd_T32 bt252.1 0).f0) = 1 then (some (((rd_T32 bt252.1 0).f1).toList == a0.toList)) else (if ((rd_T32 bt252.1 0).f0) = 2 then (some (((rd_T32 bt252.1 0).f1).toList == a0.toList)) else (some false))) else (none)) else (some false)) else (some false))
set_option maxHeartbeats 8000000 in
set_option maxRecDepth 100000 in
theorem tok_Event.calls (k : Nat) (a0 : ByteArray) (r : Bool) (w : World) (hL : Laid w) (h : tok_Event.f k a0 = some r) :
  Calls Tryd.prog 24 #[.string a0] w fun e w' => e = .returned (.bool r) ∧ Below w.heap.size w w' := by
 have HB := Aside0.mk (Below.refl w.heap.size w)
 have HLD := Aside0.mk hL
 clear hL
 have H : ((tok_Lex.f k a0).bind fun bt252 => (if bt252.2.1 = 0 then (if (bt252.1.length : Int) = 1 then (if 0 < (bt252.1.length : Int) then (if ((rd_T32 bt252.1 0).f0) = 1 then (some (((rd_T32 bt252.1 0).f1).toList == a0.toList)) else (if ((rd_T32 bt252.1 0).f0) = 2 then (some (((rd_T32 bt252.1 0).f1).toList == a0.toList)) else (some false))) else (none)) else (some false)) else (some false))) = some r := h
 clear h
 replace H := Option.bind_eq_some_iff.mp H
 obtain ⟨⟨t252, t253, t254⟩, A20, H⟩ := H
 (try dsimp -simprocs only at H)
 have A2 := Aside0.mk A20
 clear A20
 by_cases c3 : t253 = 0
 ·rw [if_pos c3] at H
  have c3b0 := beq_iff_eq.mpr c3
  have c3b1 := bne_eq_false_iff_eq.mpr c3
  clear c3
  by_cases c4 : (t252.length : Int) = 1
  ·rw [if_pos c4] at H
   have c4b0 := beq_iff_eq.mpr c4
   have c4b1 := bne_eq_false_iff_eq.mpr c4
   clear c4
   by_cases c5 : 0 < (t252.length : Int)
   ·rw [if_pos c5] at H
    have c5b0 := decide_eq_true c5
    have c5b1 : decide (0 < t252.length) = true := decide_eq_true (by omega)
    clear c5
    by_cases c6 : ((rd_T32 t252 0).f0) = 1
    ·rw [if_pos c6] at H
     have c6b0 := beq_iff_eq.mpr c6
     have c6b1 := bne_eq_false_iff_eq.mpr c6
     clear c6
     obtain rfl := Option.some.inj H
     go_enter Tryd.func24, Tryd.ntmps24
     go_wp2_with (first | ((with_reducible refine gc 20 rfl ?_); refine gl (some 8) #[.string a0] Tryd.func20 ?_; (with_reducible refine (tok_Lex.calls k a0 t252 t253 t254 _ ?side1 A2.out).mono ?_); (case side1 => exact Laid.below HLD.out qB); rintro e w7 ⟨v255, rfl, ho0, hb⟩; refine ⟨_, rfl, ?_⟩; have HO256 := Aside0.mk (Kd.R_lower ho0 (below_size qB)); replace HB := bst hb; (try clear hb); (try clear ho0); obtain ⟨Ao8, co8, eo8⟩ := Kd.R_slice HO256.out; subst eo8; have p257 : 0 ≤ (0 : Int) := (by omega); have q257 : 0 < (t252.length : Int) := qD; obtain ⟨ad257, e257, hx257_0, hx257_1, hx257_2, hx257_3⟩ := at_T32 (Kd.R_reads' HO256.out).2.2 0 p257 q257; cases e257; have qi257 : (0 < t252.length) = True := eq_true (by omega); (try rw [show ((0 : Int)).toNat = 0 from rfl] at hx257_0); (try rw [show 0 * 4 = 0 from rfl] at hx257_0); (try rw [Addr.add_zero'] at hx257_0); (try rw [show ((0 : Int)).toNat = 0 from rfl] at hx257_1); (try rw [show 0 * 4 = 0 from rfl] at hx257_1); (try rw [Addr.add_zero'] at hx257_1); (try rw [show ((0 : Int)).toNat = 0 from rfl] at hx257_2); (try rw [show 0 * 4 = 0 from rfl] at hx257_2); (try rw [Addr.add_zero'] at hx257_2); (try rw [show ((0 : Int)).toNat = 0 from rfl] at hx257_3); (try rw [show 0 * 4 = 0 from rfl] at hx257_3); (try rw [Addr.add_zero'] at hx257_3); replace p257 := eq_true p257; replace q257 := eq_true q257; have p258 : 0 ≤ (0 : Int) := (by omega); have q258 : 0 < (t252.length : Int) := qD; obtain ⟨ad258, e258, hx258_0, hx258_1, hx258_2, hx258_3⟩ := at_T32 (Kd.R_reads' HO256.out).2.2 0 p258 q258; obtain rfl : ad257 = ad258 := (by injection e258); have qi258 : (0 < t252.length) = True := eq_true (by omega); (try rw [show ((0 : Int)).toNat = 0 from rfl] at hx258_0); (try rw [show 0 * 4 = 0 from rfl] at hx258_0); (try rw [Addr.add_zero'] at hx258_0); (try rw [show ((0 : Int)).toNat = 0 from rfl] at hx258_1); (try rw [show 0 * 4 = 0 from rfl] at hx258_1); (try rw [Addr.add_zero'] at hx258_1); (try rw [show ((0 : Int)).toNat = 0 from rfl] at hx258_2); (try rw [show 0 * 4 = 0 from rfl] at hx258_2); (try rw [Addr.add_zero'] at hx258_2); (try rw [show ((0 : Int)).toNat = 0 from rfl] at hx258_3); (try rw [show 0 * 4 = 0 from rfl] at hx258_3); (try rw [Addr.add_zero'] at hx258_3); replace p258 := eq_true p258; replace q258 := eq_true q258))
     go_ret
     exact ⟨qR, qB⟩
    ·rw [if_neg c6] at H
     have c6b0 := beq_eq_false_iff_ne.mpr c6
     have c6b1 := bne_iff_ne.mpr c6
     by_cases c9 : ((rd_T32 t252 0).f0) = 2
     ·rw [if_pos c9] at H
      have c9b0 := beq_iff_eq.mpr c9
      have c9b1 := bne_eq_false_iff_eq.mpr c9
      clear c9
      obtain rfl := Option.some.inj H
      go_enter Tryd.func24, Tryd.ntmps24
      go_wp2_with (first | ((with_reducible refine gc 20 rfl ?_); refine gl (some 8) #[.string a0] Tryd.func20 ?_; (with_reducible refine (tok_Lex.calls k a0 t252 t253 t254 _ ?side1 A2.out).mono ?_); (case side1 => exact Laid.below HLD.out qB); rintro e w10 ⟨v255, rfl, ho0, hb⟩; refine ⟨_, rfl, ?_⟩; have HO256 := Aside0.mk (Kd.R_lower ho0 (below_size qB)); replace HB := bst hb; (try clear hb); (try clear ho0); obtain ⟨Ao11, co11, eo11⟩ := Kd.R_slice HO256.out; subst eo11; have p257 : 0 ≤ (0 : Int) := (by omega); have q257 : 0 < (t252.length : Int) := qD; obtain ⟨ad257, e257, hx257_0, hx257_1, hx257_2, hx257_3⟩ := at_T32 (Kd.R_reads' HO256.out).2.2 0 p257 q257; cases e257; have qi257 : (0 < t252.length) = True := eq_true (by omega); (try rw [show ((0 : Int)).toNat = 0 from rfl] at hx257_0); (try rw [show 0 * 4 = 0 from rfl] at hx257_0); (try rw [Addr.add_zero'] at hx257_0); (try rw [show ((0 : Int)).toNat = 0 from rfl] at hx257_1); (try rw [show 0 * 4 = 0 from rfl] at hx257_1); (try rw [Addr.add_zero'] at hx257_1); (try rw [show ((0 : Int)).toNat = 0 from rfl] at hx257_2); (try rw [show 0 * 4 = 0 from rfl] at hx257_2); (try rw [Addr.add_zero'] at hx257_2); (try rw [show ((0 : Int)).toNat = 0 from rfl] at hx257_3); (try rw [show 0 * 4 = 0 from rfl] at hx257_3); (try rw [Addr.add_zero'] at hx257_3); replace p257 := eq_true p257; replace q257 := eq_true q257; have p259 : 0 ≤ (0 : Int) := (by omega); have q259 : 0 < (t252.length : Int) := qD; obtain ⟨ad259, e259, hx259_0, hx259_1, hx259_2, hx259_3⟩ := at_T32 (Kd.R_reads' HO256.out).2.2 0 p259 q259; obtain rfl : ad257 = ad259 := (by injection e259); have qi259 : (0 < t252.length) = True := eq_true (by omega); (try rw [show ((0 : Int)).toNat = 0 from rfl] at hx259_0); (try rw [show 0 * 4 = 0 from rfl] at hx259_0); (try rw [Addr.add_zero'] at hx259_0); (try rw [show ((0 : Int)).toNat = 0 from rfl] at hx259_1); (try rw [show 0 * 4 = 0 from rfl] at hx259_1); (try rw [Addr.add_zero'] at hx259_1); (try rw [show ((0 : Int)).toNat = 0 from rfl] at hx259_2); (try rw [show 0 * 4 = 0 from rfl] at hx259_2); (try rw [Addr.add_zero'] at hx259_2); (try rw [show ((0 : Int)).toNat = 0 from rfl] at hx259_3); (try rw [show 0 * 4 = 0 from rfl] at hx259_3); (try rw [Addr.add_zero'] at hx259_3); replace p259 := eq_true p259; replace q259 := eq_true q259; have p260 : 0 ≤ (0 : Int) := (by omega); have q260 : 0 < (t252.length : Int) := qD; obtain ⟨ad260, e260, hx260_0, hx260_1, hx260_2, hx260_3⟩ := at_T32 (Kd.R_reads' HO256.out).2.2 0 p260 q260; obtain rfl : ad257 = ad260 := (by injection e260); have qi260 : (0 < t252.length) = True := eq_true (by omega); (try rw [show ((0 : Int)).toNat = 0 from rfl] at hx260_0); (try rw [show 0 * 4 = 0 from rfl] at hx260_0); (try rw [Addr.add_zero'] at hx260_0); (try rw [show ((0 : Int)).toNat = 0 from rfl] at hx260_1); (try rw [show 0 * 4 = 0 from rfl] at hx260_1); (try rw [Addr.add_zero'] at hx260_1); (try rw [show ((0 : Int)).toNat = 0 from rfl] at hx260_2); (try rw [show 0 * 4 = 0 from rfl] at hx260_2); (try rw [Addr.add_zero'] at hx260_2); (try rw [show ((0 : Int)).toNat = 0 from rfl] at hx260_3); (try rw [show 0 * 4 = 0 from rfl] at hx260_3); (try rw [Addr.add_zero'] at hx260_3); replace p260 := eq_true p260; replace q260 := eq_true q260))
      go_ret
      exact ⟨qR, qB⟩
     ·rw [if_neg c9] at H
      have c9b0 := beq_eq_false_iff_ne.mpr c9
      have c9b1 := bne_iff_ne.mpr c9
      obtain rfl := Option.some.inj H
      go_enter Tryd.func24, Tryd.ntmps24
      go_wp2_with (first | ((with_reducible refine gc 20 rfl ?_); refine gl (some 8) #[.string a0] Tryd.func20 ?_; (with_reducible refine (tok_Lex.calls k a0 t252 t253 t254 _ ?side1 A2.out).mono ?_); (case side1 => exact Laid.below HLD.out qB); rintro e w12 ⟨v255, rfl, ho0, hb⟩; refine ⟨_, rfl, ?_⟩; have HO256 := Aside0.mk (Kd.R_lower ho0 (below_size qB)); replace HB := bst hb; (try clear hb); (try clear ho0); obtain ⟨Ao13, co13, eo13⟩ := Kd.R_slice HO256.out; subst eo13; have p257 : 0 ≤ (0 : Int) := (by omega); have q257 : 0 < (t252.length : Int) := qD; obtain ⟨ad257, e257, hx257_0, hx257_1, hx257_2, hx257_3⟩ := at_T32 (Kd.R_reads' HO256.out).2.2 0 p257 q257; cases e257; have qi257 : (0 < t252.length) = True := eq_true (by omega); (try rw [show ((0 : Int)).toNat = 0 from rfl] at hx257_0); (try rw [show 0 * 4 = 0 from rfl] at hx257_0); (try rw [Addr.add_zero'] at hx257_0); (try rw [show ((0 : Int)).toNat = 0 from rfl] at hx257_1); (try rw [show 0 * 4 = 0 from rfl] at hx257_1); (try rw [Addr.add_zero'] at hx257_1); (try rw [show ((0 : Int)).toNat = 0 from rfl] at hx257_2); (try rw [show 0 * 4 = 0 from rfl] at hx257_2); (try rw [Addr.add_zero'] at hx257_2); (try rw [show ((0 : Int)).toNat = 0 from rfl] at hx257_3); (try rw [show 0 * 4 = 0 from rfl] at hx257_3); (try rw [Addr.add_zero'] at hx257_3); replace p257 := eq_true p257; replace q257 := eq_true q257; have p259 : 0 ≤ (0 : Int) := (by omega); have q259 : 0 < (t252.length : Int) := qD; obtain ⟨ad259, e259, hx259_0, hx259_1, hx259_2, hx259_3⟩ := at_T32 (Kd.R_reads' HO256.out).2.2 0 p259 q259; obtain rfl : ad257 = ad259 := (by injection e259); have qi259 : (0 < t252.length) = True := eq_true (by omega); (try rw [show ((0 : Int)).toNat = 0 from rfl] at hx259_0); (try rw [show 0 * 4 = 0 from rfl] at hx259_0); (try rw [Addr.add_zero'] at hx259_0); (try rw [show ((0 : Int)).toNat = 0 from rfl] at hx259_1); (try rw [show 0 * 4 = 0 from rfl] at hx259_1); (try rw [Addr.add_zero'] at hx259_1); (try rw [show ((0 : Int)).toNat = 0 from rfl] at hx259_2); (try rw [show 0 * 4 = 0 from rfl] at hx259_2); (try rw [Addr.add_zero'] at hx259_2); (try rw [show ((0 : Int)).toNat = 0 from rfl] at hx259_3); (try rw [show 0 * 4 = 0 from rfl] at hx259_3); (try rw [Addr.add_zero'] at hx259_3); replace p259 := eq_true p259; replace q259 := eq_true q259))
      go_ret
      exact ⟨qR, qB⟩
   ·rw [if_neg c5] at H
    exact absurd H (by simp)
  ·rw [if_neg c4] at H
   have c4b0 := beq_eq_false_iff_ne.mpr c4
   have c4b1 := bne_iff_ne.mpr c4
   obtain rfl := Option.some.inj H
   go_enter Tryd.func24, Tryd.ntmps24
   go_wp2_with (first | ((with_reducible refine gc 20 rfl ?_); refine gl (some 8) #[.string a0] Tryd.func20 ?_; (with_reducible refine (tok_Lex.calls k a0 t252 t253 t254 _ ?side1 A2.out).mono ?_); (case side1 => exact Laid.below HLD.out qB); rintro e w14 ⟨v255, rfl, ho0, hb⟩; refine ⟨_, rfl, ?_⟩; have HO256 := Aside0.mk (Kd.R_lower ho0 (below_size qB)); replace HB := bst hb; (try clear hb); (try clear ho0); obtain ⟨Ao15, co15, eo15⟩ := Kd.R_slice HO256.out; subst eo15))
   go_ret
   exact ⟨qR, qB⟩
 ·rw [if_neg c3] at H
  have c3b0 := beq_eq_false_iff_ne.mpr c3
  have c3b1 := bne_iff_ne.mpr c3
  obtain rfl := Option.some.inj H
  go_enter Tryd.func24, Tryd.ntmps24
  go_wp2_with (first | ((with_reducible refine gc 20 rfl ?_); refine gl (some 8) #[.string a0] Tryd.func20 ?_; (with_reducible refine (tok_Lex.calls k a0 t252 t253 t254 _ ?side1 A2.out).mono ?_); (case side1 => exact Laid.below HLD.out qB); rintro e w16 ⟨v255, rfl, ho0, hb⟩; refine ⟨_, rfl, ?_⟩; have HO256 := Aside0.mk (Kd.R_lower ho0 (below_size qB)); replace HB := bst hb; (try clear hb); (try clear ho0)))
  go_ret
  exact ⟨qR, qB⟩
end Go.Proofs.YtbngfhlciebeeaaDoor.L
