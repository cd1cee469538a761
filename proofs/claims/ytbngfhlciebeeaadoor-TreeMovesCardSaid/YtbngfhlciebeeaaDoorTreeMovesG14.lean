/- Printed and hand-written steps towards the row (TreeMoves), those that it reaches. -/
import Derived.Test.YtbngfhlciebeeaaDoorTreeMovesG4
import Derived.Test.YtbngfhlciebeeaaDoorTreeMovesG10
import Derived.Test.YtbngfhlciebeeaaDoorTreeMovesG12
import Derived.Test.YtbngfhlciebeeaaDoorTreeMovesG9
section
namespace Go.Proofs.YtbngfhlciebeeaaDoor.L
open Go.RowKit Go.Proofs.YtbngfhlciebeeaaDoorW.PrintWords Go.Proofs.YtbngfhlciebeeaaDoorW.PrintLast Go.Proofs.YtbngfhlciebeeaaDoorW.PrintMore
attribute [local go_sem] max2_int min2_int max_two min_two max_three min_three max_four min_four   -- for this text's walks alone
set_option linter.unusedVariables false
set_option linter.unusedSimpArgs false
def tok_Event.f (k : Nat) (a0 : ByteArray) : Option (Bool) := (tok_Lex.f k a0).bind fun bt252 => (if bt252.2.1 = 0 then (if (bt252.1.length : Int) = 1 then (if 0 < (bt252.1.length : Int) then (if ((rd_T32 bt252.1 0).f0) = 1 then (some (((rd_T32 bt252.1 0).f1).toList == a0.toList)) else (if ((rd_T32 bt252.1 0).f0) = 2 then (some (((rd_T32 bt252.1 0).f1).toList == a0.toList)) else (some false))) else (none)) else (some false)) else (some false))
set_option maxHeartbeats 8000000 in
set_option maxRecDepth 100000 in
theorem tok_Event.calls (k : Nat) (a0 : ByteArray) (r : Bool) (w : World) (hL : Laid w) (h : tok_Event.f k a0 = some r) :
  Calls Tryd.prog 24 #[.string a0] w fun e w' => e = .returned (.bool r) ∧ Below w.heap.size w w' := by
 have HB := Aside0.mk (Below.refl w.heap.size w)
 have HLD := Aside0.mk hL
 clear hL
 have H : ((tok_Lex.f k a0).bind fun bt252 => (if bt252.2.1 = 0 then (if (bt252.1.length : Int) = 1 then (if 0 < (bt252.1.length : Int) then (if ((rd_T32 bt252.1 0).f0) = 1 then (some (((rd_T32 bt252.1 0).f1).toList == a0.toList)) else (if ((rd_T32 bt252.1 0).f0) = 2 then (some (((rd_T32 bt252.1 0).f1).toList == a0.toList)) else (some false))) else (none)) else (some false)) else (some false))) = some r := h
 clear h
 replace H := Option.bind_eq_some_iff.mp H
 obtain ⟨⟨t252, t253, t254⟩, A20, H⟩ := H
 (try dsimp -simprocs only at H)
 have A2 := Aside0.mk A20
 clear A20
 by_cases c3 : t253 = 0
 ·rw [if_pos c3] at H
  have c3b0 := beq_iff_eq.mpr c3
  have c3b1 := bne_eq_false_iff_eq.mpr c3
  clear c3
  by_cases c4 : (t252.length : Int) = 1
  ·rw [if_pos c4] at H
   have c4b0 := beq_iff_eq.mpr c4
   have c4b1 := bne_eq_false_iff_eq.mpr c4
   clear c4
   by_cases c5 : 0 < (t252.length : Int)
   ·rw [if_pos c5] at H
    have c5b0 := decide_eq_true c5
    have c5b1 : decide (0 < t252.length) = true := decide_eq_true (by omega)
    clear c5
    by_cases c6 : ((rd_T32 t252 0).f0) = 1
    ·rw [if_pos c6] at H
     have c6b0 := beq_iff_eq.mpr c6
     have c6b1 := bne_eq_false_iff_eq.mpr c6
     clear c6
     obtain rfl := Option.some.inj H
     go_enter Tryd.func24, Tryd.ntmps24
     go_wp2_with (first | (refine gl (some 8) #[.string a0] Tryd.func20 ?_; (with_reducible refine (tok_Lex.calls k a0 t252 t253 t254 _ ?side1 A2.out).mono ?_); (case side1 => exact Laid.below HLD.out qB); rintro e w7 ⟨v255, rfl, ho0, hb⟩; refine ⟨_, rfl, ?_⟩; have HO256 := Aside0.mk (Kd.R_lower ho0 (below_size qB)); replace HB := bst hb; (try clear hb); (try clear ho0); obtain ⟨Ao8, co8, eo8⟩ := Kd.R_slice HO256.out; subst eo8; have p257 : 0 ≤ (0 : Int) := (by omega); have q257 : 0 < (t252.length : Int) := qD; obtain ⟨ad257, e257, hx257_0, hx257_1, hx257_2, hx257_3⟩ := at_T32 (Kd.R_reads' HO256.out).2.2 0 p257 q257; cases e257; have qi257 : (0 < t252.length) = True := eq_true (by omega); (try rw [show ((0 : Int)).toNat = 0 from rfl] at hx257_0); (try rw [show 0 * 4 = 0 from rfl] at hx257_0); (try rw [Addr.add_zero'] at hx257_0); (try rw [show ((0 : Int)).toNat = 0 from rfl] at hx257_1); (try rw [show 0 * 4 = 0 from rfl] at hx257_1); (try rw [Addr.add_zero'] at hx257_1); (try rw [show ((0 : Int)).toNat = 0 from rfl] at hx257_2); (try rw [show 0 * 4 = 0 from rfl] at hx257_2); (try rw [Addr.add_zero'] at hx257_2); (try rw [show ((0 : Int)).toNat = 0 from rfl] at hx257_3); (try rw [show 0 * 4 = 0 from rfl] at hx257_3); (try rw [Addr.add_zero'] at hx257_3); replace p257 := eq_true p257; replace q257 := eq_true q257; have p258 : 0 ≤ (0 : Int) := (by omega); have q258 : 0 < (t252.length : Int) := qD; obtain ⟨ad258, e258, hx258_0, hx258_1, hx258_2, hx258_3⟩ := at_T32 (Kd.R_reads' HO256.out).2.2 0 p258 q258; obtain rfl : ad257 = ad258 := (by injection e258); have qi258 : (0 < t252.length) = True := eq_true (by omega); (try rw [show ((0 : Int)).toNat = 0 from rfl] at hx258_0); (try rw [show 0 * 4 = 0 from rfl] at hx258_0); (try rw [Addr.add_zero'] at hx258_0); (try rw [show ((0 : Int)).toNat = 0 from rfl] at hx258_1); (try rw [show 0 * 4 = 0 from rfl] at hx258_1); (try rw [Addr.add_zero'] at hx258_1); (try rw [show ((0 : Int)).toNat = 0 from rfl] at hx258_2); (try rw [show 0 * 4 = 0 from rfl] at hx258_2); (try rw [Addr.add_zero'] at hx258_2); (try rw [show ((0 : Int)).toNat = 0 from rfl] at hx258_3); (try rw [show 0 * 4 = 0 from rfl] at hx258_3); (try rw [Addr.add_zero'] at hx258_3); replace p258 := eq_true p258; replace q258 := eq_true q258))
     go_ret
     exact ⟨qR, qB⟩
    ·rw [if_neg c6] at H
     have c6b0 := beq_eq_false_iff_ne.mpr c6
     have c6b1 := bne_iff_ne.mpr c6
     by_cases c9 : ((rd_T32 t252 0).f0) = 2
     ·rw [if_pos c9] at H
      have c9b0 := beq_iff_eq.mpr c9
      have c9b1 := bne_eq_false_iff_eq.mpr c9
      clear c9
      obtain rfl := Option.some.inj H
      go_enter Tryd.func24, Tryd.ntmps24
      go_wp2_with (first | (refine gl (some 8) #[.string a0] Tryd.func20 ?_; (with_reducible refine (tok_Lex.calls k a0 t252 t253 t254 _ ?side1 A2.out).mono ?_); (case side1 => exact Laid.below HLD.out qB); rintro e w10 ⟨v255, rfl, ho0, hb⟩; refine ⟨_, rfl, ?_⟩; have HO256 := Aside0.mk (Kd.R_lower ho0 (below_size qB)); replace HB := bst hb; (try clear hb); (try clear ho0); obtain ⟨Ao11, co11, eo11⟩ := Kd.R_slice HO256.out; subst eo11; have p257 : 0 ≤ (0 : Int) := (by omega); have q257 : 0 < (t252.length : Int) := qD; obtain ⟨ad257, e257, hx257_0, hx257_1, hx257_2, hx257_3⟩ := at_T32 (Kd.R_reads' HO256.out).2.2 0 p257 q257; cases e257; have qi257 : (0 < t252.length) = True := eq_true (by omega); (try rw [show ((0 : Int)).toNat = 0 from rfl] at hx257_0); (try rw [show 0 * 4 = 0 from rfl] at hx257_0); (try rw [Addr.add_zero'] at hx257_0); (try rw [show ((0 : Int)).toNat = 0 from rfl] at hx257_1); (try rw [show 0 * 4 = 0 from rfl] at hx257_1); (try rw [Addr.add_zero'] at hx257_1); (try rw [show ((0 : Int)).toNat = 0 from rfl] at hx257_2); (try rw [show 0 * 4 = 0 from rfl] at hx257_2); (try rw [Addr.add_zero'] at hx257_2); (try rw [show ((0 : Int)).toNat = 0 from rfl] at hx257_3); (try rw [show 0 * 4 = 0 from rfl] at hx257_3); (try rw [Addr.add_zero'] at hx257_3); replace p257 := eq_true p257; replace q257 := eq_true q257; have p259 : 0 ≤ (0 : Int) := (by omega); have q259 : 0 < (t252.length : Int) := qD; obtain ⟨ad259, e259, hx259_0, hx259_1, hx259_2, hx259_3⟩ := at_T32 (Kd.R_reads' HO256.out).2.2 0 p259 q259; obtain rfl : ad257 = ad259 := (by injection e259); have qi259 : (0 < t252.length) = True := eq_true (by omega); (try rw [show ((0 : Int)).toNat = 0 from rfl] at hx259_0); (try rw [show 0 * 4 = 0 from rfl] at hx259_0); (try rw [Addr.add_zero'] at hx259_0); (try rw [show ((0 : Int)).toNat = 0 from rfl] at hx259_1); (try rw [show 0 * 4 = 0 from rfl] at hx259_1); (try rw [Addr.add_zero'] at hx259_1); (try rw [show ((0 : Int)).toNat = 0 from rfl] at hx259_2); (try rw [show 0 * 4 = 0 from rfl] at hx259_2); (try rw [Addr.add_zero'] at hx259_2); (try rw [show ((0 : Int)).toNat = 0 from rfl] at hx259_3); (try rw [show 0 * 4 = 0 from rfl] at hx259_3); (try rw [Addr.add_zero'] at hx259_3); replace p259 := eq_true p259; replace q259 := eq_true q259; have p260 : 0 ≤ (0 : Int) := (by omega); have q260 : 0 < (t252.length : Int) := qD; obtain ⟨ad260, e260, hx260_0, hx260_1, hx260_2, hx260_3⟩ := at_T32 (Kd.R_reads' HO256.out).2.2 0 p260 q260; obtain rfl : ad257 = ad260 := (by injection e260); have qi260 : (0 < t252.length) = True := eq_true (by omega); (try rw [show ((0 : Int)).toNat = 0 from rfl] at hx260_0); (try rw [show 0 * 4 = 0 from rfl] at hx260_0); (try rw [Addr.add_zero'] at hx260_0); (try rw [show ((0 : Int)).toNat = 0 from rfl] at hx260_1); (try rw [show 0 * 4 = 0 from rfl] at hx260_1); (try rw [Addr.add_zero'] at hx260_1); (try rw [show ((0 : Int)).toNat = 0 from rfl] at hx260_2); (try rw [show 0 * 4 = 0 from rfl] at hx260_2); (try rw [Addr.add_zero'] at hx260_2); (try rw [show ((0 : Int)).toNat = 0 from rfl] at hx260_3); (try rw [show 0 * 4 = 0 from rfl] at hx260_3); (try rw [Addr.add_zero'] at hx260_3); replace p260 := eq_true p260; replace q260 := eq_true q260))
      go_ret
      exact ⟨qR, qB⟩
     ·rw [if_neg c9] at H
      have c9b0 := beq_eq_false_iff_ne.mpr c9
      have c9b1 := bne_iff_ne.mpr c9
      obtain rfl := Option.some.inj H
      go_enter Tryd.func24, Tryd.ntmps24
      go_wp2_with (first | (refine gl (some 8) #[.string a0] Tryd.func20 ?_; (with_reducible refine (tok_Lex.calls k a0 t252 t253 t254 _ ?side1 A2.out).mono ?_); (case side1 => exact Laid.below HLD.out qB); rintro e w12 ⟨v255, rfl, ho0, hb⟩; refine ⟨_, rfl, ?_⟩; have HO256 := Aside0.mk (Kd.R_lower ho0 (below_size qB)); replace HB := bst hb; (try clear hb); (try clear ho0); obtain ⟨Ao13, co13, eo13⟩ := Kd.R_slice HO256.out; subst eo13; have p257 : 0 ≤ (0 : Int) := (by omega); have q257 : 0 < (t252.length : Int) := qD; obtain ⟨ad257, e257, hx257_0, hx257_1, hx257_2, hx257_3⟩ := at_T32 (Kd.R_reads' HO256.out).2.2 0 p257 q257; cases e257; have qi257 : (0 < t252.length) = True := eq_true (by omega); (try rw [show ((0 : Int)).toNat = 0 from rfl] at hx257_0); (try rw [show 0 * 4 = 0 from rfl] at hx257_0); (try rw [Addr.add_zero'] at hx257_0); (try rw [show ((0 : Int)).toNat = 0 from rfl] at hx257_1); (try rw [show 0 * 4 = 0 from rfl] at hx257_1); (try rw [Addr.add_zero'] at hx257_1); (try rw [show ((0 : Int)).toNat = 0 from rfl] at hx257_2); (try rw [show 0 * 4 = 0 from rfl] at hx257_2); (try rw [Addr.add_zero'] at hx257_2); (try rw [show ((0 : Int)).toNat = 0 from rfl] at hx257_3); (try rw [show 0 * 4 = 0 from rfl] at hx257_3); (try rw [Addr.add_zero'] at hx257_3); replace p257 := eq_true p257; replace q257 := eq_true q257; have p259 : 0 ≤ (0 : Int) := (by omega); have q259 : 0 < (t252.length : Int) := qD; obtain ⟨ad259, e259, hx259_0, hx259_1, hx259_2, hx259_3⟩ := at_T32 (Kd.R_reads' HO256.out).2.2 0 p259 q259; obtain rfl : ad257 = ad259 := (by injection e259); have qi259 : (0 < t252.length) = True := eq_true (by omega); (try rw [show ((0 : Int)).toNat = 0 from rfl] at hx259_0); (try rw [show 0 * 4 = 0 from rfl] at hx259_0); (try rw [Addr.add_zero'] at hx259_0); (try rw [show ((0 : Int)).toNat = 0 from rfl] at hx259_1); (try rw [show 0 * 4 = 0 from rfl] at hx259_1); (try rw [Addr.add_zero'] at hx259_1); (try rw [show ((0 : Int)).toNat = 0 from rfl] at hx259_2); (try rw [show 0 * 4 = 0 from rfl] at hx259_2); (try rw [Addr.add_zero'] at hx259_2); (try rw [show ((0 : Int)).toNat = 0 from rfl] at hx259_3); (try rw [show 0 * 4 = 0 from rfl] at hx259_3); (try rw [Addr.add_zero'] at hx259_3); replace p259 := eq_true p259; replace q259 := eq_true q259))
      go_ret
      exact ⟨qR, qB⟩
   ·rw [if_neg c5] at H
    exact absurd H (by simp)
  ·rw [if_neg c4] at H
   have c4b0 := beq_eq_false_iff_ne.mpr c4
   have c4b1 := bne_iff_ne.mpr c4
   obtain rfl := Option.some.inj H
   go_enter Tryd.func24, Tryd.ntmps24
   go_wp2_with (first | (refine gl (some 8) #[.string a0] Tryd.func20 ?_; (with_reducible refine (tok_Lex.calls k a0 t252 t253 t254 _ ?side1 A2.out).mono ?_); (case side1 => exact Laid.below HLD.out qB); rintro e w14 ⟨v255, rfl, ho0, hb⟩; refine ⟨_, rfl, ?_⟩; have HO256 := Aside0.mk (Kd.R_lower ho0 (below_size qB)); replace HB := bst hb; (try clear hb); (try clear ho0); obtain ⟨Ao15, co15, eo15⟩ := Kd.R_slice HO256.out; subst eo15))
   go_ret
   exact ⟨qR, qB⟩
 ·rw [if_neg c3] at H
  have c3b0 := beq_eq_false_iff_ne.mpr c3
  have c3b1 := bne_iff_ne.mpr c3
  obtain rfl := Option.some.inj H
  go_enter Tryd.func24, Tryd.ntmps24
  go_wp2_with (first | (refine gl (some 8) #[.string a0] Tryd.func20 ?_; (with_reducible refine (tok_Lex.calls k a0 t252 t253 t254 _ ?side1 A2.out).mono ?_); (case side1 => exact Laid.below HLD.out qB); rintro e w16 ⟨v255, rfl, ho0, hb⟩; refine ⟨_, rfl, ?_⟩; have HO256 := Aside0.mk (Kd.R_lower ho0 (below_size qB)); replace HB := bst hb; (try clear hb); (try clear ho0)))
  go_ret
  exact ⟨qR, qB⟩
def whirligigref02_Event.f (k : Nat) (a0 : ByteArray) : Option (Bool) := (whirligigref02_Lex.f k a0).bind fun bt261 => (if bt261.2.1 = 0 then (if (bt261.1.length : Int) = 1 then (if 0 < (bt261.1.length : Int) then (if ((rd_T31 bt261.1 0).f0) < 3 then (some (((rd_T31 bt261.1 0).f1).toList == a0.toList)) else (some false)) else (none)) else (some false)) else (some false))
set_option maxHeartbeats 8000000 in
set_option maxRecDepth 100000 in
theorem whirligigref02_Event.calls (k : Nat) (a0 : ByteArray) (r : Bool) (w : World) (h : whirligigref02_Event.f k a0 = some r) :
  Calls Tryd.prog 25 #[.string a0] w fun e w' => e = .returned (.bool r) ∧ Below w.heap.size w w' := by
 have HB := Aside0.mk (Below.refl w.heap.size w)
 have H : ((whirligigref02_Lex.f k a0).bind fun bt261 => (if bt261.2.1 = 0 then (if (bt261.1.length : Int) = 1 then (if 0 < (bt261.1.length : Int) then (if ((rd_T31 bt261.1 0).f0) < 3 then (some (((rd_T31 bt261.1 0).f1).toList == a0.toList)) else (some false)) else (none)) else (some false)) else (some false))) = some r := h
 clear h
 replace H := Option.bind_eq_some_iff.mp H
 obtain ⟨⟨t261, t262, t263⟩, A20, H⟩ := H
 (try dsimp -simprocs only at H)
 have A2 := Aside0.mk A20
 clear A20
 by_cases c3 : t262 = 0
 ·rw [if_pos c3] at H
  have c3b0 := beq_iff_eq.mpr c3
  have c3b1 := bne_eq_false_iff_eq.mpr c3
  clear c3
  by_cases c4 : (t261.length : Int) = 1
  ·rw [if_pos c4] at H
   have c4b0 := beq_iff_eq.mpr c4
   have c4b1 := bne_eq_false_iff_eq.mpr c4
   clear c4
   by_cases c5 : 0 < (t261.length : Int)
   ·rw [if_pos c5] at H
    have c5b0 := decide_eq_true c5
    have c5b1 : decide (0 < t261.length) = true := decide_eq_true (by omega)
    clear c5
    by_cases c6 : ((rd_T31 t261 0).f0) < 3
    ·rw [if_pos c6] at H
     have c6b0 := decide_eq_true c6
     clear c6
     obtain rfl := Option.some.inj H
     go_enter Tryd.func25, Tryd.ntmps25
     go_wp2_with (first | (refine gl (some 8) #[.string a0] Tryd.func21 ?_; (with_reducible refine (whirligigref02_Lex.calls k a0 t261 t262 t263 _ A2.out).mono ?_); rintro e w7 ⟨v264, rfl, ho0, hb⟩; refine ⟨_, rfl, ?_⟩; have HO265 := Aside0.mk (Kd.R_lower ho0 (below_size qB)); replace HB := bst hb; (try clear hb); (try clear ho0); obtain ⟨Ao8, co8, eo8⟩ := Kd.R_slice HO265.out; subst eo8; have p266 : 0 ≤ (0 : Int) := (by omega); have q266 : 0 < (t261.length : Int) := qD; obtain ⟨ad266, e266, hx266_0, hx266_1, hx266_2, hx266_3⟩ := at_T31 (Kd.R_reads' HO265.out).2.2 0 p266 q266; cases e266; have qi266 : (0 < t261.length) = True := eq_true (by omega); (try rw [show ((0 : Int)).toNat = 0 from rfl] at hx266_0); (try rw [show 0 * 4 = 0 from rfl] at hx266_0); (try rw [Addr.add_zero'] at hx266_0); (try rw [show ((0 : Int)).toNat = 0 from rfl] at hx266_1); (try rw [show 0 * 4 = 0 from rfl] at hx266_1); (try rw [Addr.add_zero'] at hx266_1); (try rw [show ((0 : Int)).toNat = 0 from rfl] at hx266_2); (try rw [show 0 * 4 = 0 from rfl] at hx266_2); (try rw [Addr.add_zero'] at hx266_2); (try rw [show ((0 : Int)).toNat = 0 from rfl] at hx266_3); (try rw [show 0 * 4 = 0 from rfl] at hx266_3); (try rw [Addr.add_zero'] at hx266_3); replace p266 := eq_true p266; replace q266 := eq_true q266; have p267 : 0 ≤ (0 : Int) := (by omega); have q267 : 0 < (t261.length : Int) := qD; obtain ⟨ad267, e267, hx267_0, hx267_1, hx267_2, hx267_3⟩ := at_T31 (Kd.R_reads' HO265.out).2.2 0 p267 q267; obtain rfl : ad266 = ad267 := (by injection e267); have qi267 : (0 < t261.length) = True := eq_true (by omega); (try rw [show ((0 : Int)).toNat = 0 from rfl] at hx267_0); (try rw [show 0 * 4 = 0 from rfl] at hx267_0); (try rw [Addr.add_zero'] at hx267_0); (try rw [show ((0 : Int)).toNat = 0 from rfl] at hx267_1); (try rw [show 0 * 4 = 0 from rfl] at hx267_1); (try rw [Addr.add_zero'] at hx267_1); (try rw [show ((0 : Int)).toNat = 0 from rfl] at hx267_2); (try rw [show 0 * 4 = 0 from rfl] at hx267_2); (try rw [Addr.add_zero'] at hx267_2); (try rw [show ((0 : Int)).toNat = 0 from rfl] at hx267_3); (try rw [show 0 * 4 = 0 from rfl] at hx267_3); (try rw [Addr.add_zero'] at hx267_3); replace p267 := eq_true p267; replace q267 := eq_true q267))
     go_ret
     exact ⟨qR, qB⟩
    ·rw [if_neg c6] at H
     have c6b0 := decide_eq_false c6
     clear c6
     obtain rfl := Option.some.inj H
     go_enter Tryd.func25, Tryd.ntmps25
     go_wp2_with (first | (refine gl (some 8) #[.string a0] Tryd.func21 ?_; (with_reducible refine (whirligigref02_Lex.calls k a0 t261 t262 t263 _ A2.out).mono ?_); rintro e w9 ⟨v264, rfl, ho0, hb⟩; refine ⟨_, rfl, ?_⟩; have HO265 := Aside0.mk (Kd.R_lower ho0 (below_size qB)); replace HB := bst hb; (try clear hb); (try clear ho0); obtain ⟨Ao10, co10, eo10⟩ := Kd.R_slice HO265.out; subst eo10; have p266 : 0 ≤ (0 : Int) := (by omega); have q266 : 0 < (t261.length : Int) := qD; obtain ⟨ad266, e266, hx266_0, hx266_1, hx266_2, hx266_3⟩ := at_T31 (Kd.R_reads' HO265.out).2.2 0 p266 q266; cases e266; have qi266 : (0 < t261.length) = True := eq_true (by omega); (try rw [show ((0 : Int)).toNat = 0 from rfl] at hx266_0); (try rw [show 0 * 4 = 0 from rfl] at hx266_0); (try rw [Addr.add_zero'] at hx266_0); (try rw [show ((0 : Int)).toNat = 0 from rfl] at hx266_1); (try rw [show 0 * 4 = 0 from rfl] at hx266_1); (try rw [Addr.add_zero'] at hx266_1); (try rw [show ((0 : Int)).toNat = 0 from rfl] at hx266_2); (try rw [show 0 * 4 = 0 from rfl] at hx266_2); (try rw [Addr.add_zero'] at hx266_2); (try rw [show ((0 : Int)).toNat = 0 from rfl] at hx266_3); (try rw [show 0 * 4 = 0 from rfl] at hx266_3); (try rw [Addr.add_zero'] at hx266_3); replace p266 := eq_true p266; replace q266 := eq_true q266))
     go_ret
     exact ⟨qR, qB⟩
   ·rw [if_neg c5] at H
    exact absurd H (by simp)
  ·rw [if_neg c4] at H
   have c4b0 := beq_eq_false_iff_ne.mpr c4
   have c4b1 := bne_iff_ne.mpr c4
   obtain rfl := Option.some.inj H
   go_enter Tryd.func25, Tryd.ntmps25
   go_wp2_with (first | (refine gl (some 8) #[.string a0] Tryd.func21 ?_; (with_reducible refine (whirligigref02_Lex.calls k a0 t261 t262 t263 _ A2.out).mono ?_); rintro e w11 ⟨v264, rfl, ho0, hb⟩; refine ⟨_, rfl, ?_⟩; have HO265 := Aside0.mk (Kd.R_lower ho0 (below_size qB)); replace HB := bst hb; (try clear hb); (try clear ho0); obtain ⟨Ao12, co12, eo12⟩ := Kd.R_slice HO265.out; subst eo12))
   go_ret
   exact ⟨qR, qB⟩
 ·rw [if_neg c3] at H
  have c3b0 := beq_eq_false_iff_ne.mpr c3
  have c3b1 := bne_iff_ne.mpr c3
  obtain rfl := Option.some.inj H
  go_enter Tryd.func25, Tryd.ntmps25
  go_wp2_with (first | (refine gl (some 8) #[.string a0] Tryd.func21 ?_; (with_reducible refine (whirligigref02_Lex.calls k a0 t261 t262 t263 _ A2.out).mono ?_); rintro e w13 ⟨v264, rfl, ho0, hb⟩; refine ⟨_, rfl, ?_⟩; have HO265 := Aside0.mk (Kd.R_lower ho0 (below_size qB)); replace HB := bst hb; (try clear hb); (try clear ho0)))
  go_ret
  exact ⟨qR, qB⟩
def tok_Means.f (a0 : ByteArray) : Option (Bool) := if a0.toList = ([99, 104, 97, 114, 116] : List UInt8) then (some true) else (if a0.toList = ([118, 97, 114] : List UInt8) then (some true) else (if a0.toList = ([115, 116, 97, 116, 101] : List UInt8) then (some true) else (if a0.toList = ([112, 97, 114, 97, 108, 108, 101, 108] : List UInt8) then (some true) else (if a0.toList = ([102, 105, 110, 97, 108] : List UInt8) then (some true) else (if a0.toList = ([100, 101, 101, 112] : List UInt8) then (some true) else (if a0.toList = ([115, 104, 97, 108, 108, 111, 119] : List UInt8) then (some true) else (if a0.toList = ([101, 110, 116, 101, 114] : List UInt8) then (some true) else (if a0.toList = ([101, 120, 105, 116] : List UInt8) then (some true) else (if a0.toList = ([111, 110] : List UInt8) then (some true) else (if a0.toList = ([97, 117, 116, 111] : List UInt8) then (some true) else (if a0.toList = ([101, 110, 100] : List UInt8) then (some true) else (if a0.toList = ([105, 102] : List UInt8) then (some true) else (if a0.toList = ([103, 111] : List UInt8) then (some true) else (if a0.toList = ([105, 110, 110, 101, 114] : List UInt8) then (some true) else (if a0.toList = ([100, 111] : List UInt8) then (some true) else (if a0.toList = ([115, 101, 116] : List UInt8) then (some true) else (if a0.toList = ([114, 97, 105, 115, 101] : List UInt8) then (some true) else (if a0.toList = ([115, 101, 110, 100] : List UInt8) then (some true) else (if a0.toList = ([99, 97, 110, 99, 101, 108] : List UInt8) then (some true) else (if a0.toList = ([108, 111, 103] : List UInt8) then (some true) else (if a0.toList = ([116, 114, 117, 101] : List UInt8) then (some true) else (if a0.toList = ([102, 97, 108, 115, 101] : List UInt8) then (some true) else (if a0.toList = ([110, 111, 116] : List UInt8) then (some true) else (if a0.toList = ([97, 110, 100] : List UInt8) then (some true) else (if a0.toList = ([111, 114] : List UInt8) then (some true) else (if a0.toList = ([105, 110] : List UInt8) then (some true) else (some false)))))))))))))))))))))))))))
set_option maxHeartbeats 8000000 in
set_option maxRecDepth 100000 in
theorem tok_Means.calls (a0 : ByteArray) (r : Bool) (w : World) (h : tok_Means.f a0 = some r) :
  Calls Tryd.prog 28 #[.string a0] w fun e w' => e = .returned (.bool r) ∧ Drawn0 w w' := by
 have H : (if a0.toList = ([99, 104, 97, 114, 116] : List UInt8) then (some true) else (if a0.toList = ([118, 97, 114] : List UInt8) then (some true) else (if a0.toList = ([115, 116, 97, 116, 101] : List UInt8) then (some true) else (if a0.toList = ([112, 97, 114, 97, 108, 108, 101, 108] : List UInt8) then (some true) else (if a0.toList = ([102, 105, 110, 97, 108] : List UInt8) then (some true) else (if a0.toList = ([100, 101, 101, 112] : List UInt8) then (some true) else (if a0.toList = ([115, 104, 97, 108, 108, 111, 119] : List UInt8) then (some true) else (if a0.toList = ([101, 110, 116, 101, 114] : List UInt8) then (some true) else (if a0.toList = ([101, 120, 105, 116] : List UInt8) then (some true) else (if a0.toList = ([111, 110] : List UInt8) then (some true) else (if a0.toList = ([97, 117, 116, 111] : List UInt8) then (some true) else (if a0.toList = ([101, 110, 100] : List UInt8) then (some true) else (if a0.toList = ([105, 102] : List UInt8) then (some true) else (if a0.toList = ([103, 111] : List UInt8) then (some true) else (if a0.toList = ([105, 110, 110, 101, 114] : List UInt8) then (some true) else (if a0.toList = ([100, 111] : List UInt8) then (some true) else (if a0.toList = ([115, 101, 116] : List UInt8) then (some true) else (if a0.toList = ([114, 97, 105, 115, 101] : List UInt8) then (some true) else (if a0.toList = ([115, 101, 110, 100] : List UInt8) then (some true) else (if a0.toList = ([99, 97, 110, 99, 101, 108] : List UInt8) then (some true) else (if a0.toList = ([108, 111, 103] : List UInt8) then (some true) else (if a0.toList = ([116, 114, 117, 101] : List UInt8) then (some true) else (if a0.toList = ([102, 97, 108, 115, 101] : List UInt8) then (some true) else (if a0.toList = ([110, 111, 116] : List UInt8) then (some true) else (if a0.toList = ([97, 110, 100] : List UInt8) then (some true) else (if a0.toList = ([111, 114] : List UInt8) then (some true) else (if a0.toList = ([105, 110] : List UInt8) then (some true) else (some false)))))))))))))))))))))))))))) = some r := h
 clear h
 by_cases c2 : a0.toList = ([99, 104, 97, 114, 116] : List UInt8)
 ·rw [if_pos c2] at H
  have c2b0 := beq_iff_eq.mpr c2
  have c2b1 := bne_eq_false_iff_eq.mpr c2
  clear c2
  obtain rfl := Option.some.inj H
  go_enter Tryd.func28, Tryd.ntmps28
  go_wp2
  go_ret
  exact ⟨by first | rfl | (simp; done) | (simp [*]; done), by repeat (first | exact Drawn0.refl _ | apply Drawn0.step)⟩
 ·rw [if_neg c2] at H
  have c2b0 := beq_eq_false_iff_ne.mpr c2
  have c2b1 := bne_iff_ne.mpr c2
  by_cases c3 : a0.toList = ([118, 97, 114] : List UInt8)
  ·rw [if_pos c3] at H
   have c3b0 := beq_iff_eq.mpr c3
   have c3b1 := bne_eq_false_iff_eq.mpr c3
   clear c3
   obtain rfl := Option.some.inj H
   go_enter Tryd.func28, Tryd.ntmps28
   go_wp2
   go_ret
   exact ⟨by first | rfl | (simp; done) | (simp [*]; done), by repeat (first | exact Drawn0.refl _ | apply Drawn0.step)⟩
  ·rw [if_neg c3] at H
   have c3b0 := beq_eq_false_iff_ne.mpr c3
   have c3b1 := bne_iff_ne.mpr c3
   by_cases c4 : a0.toList = ([115, 116, 97, 116, 101] : List UInt8)
   ·rw [if_pos c4] at H
    have c4b0 := beq_iff_eq.mpr c4
    have c4b1 := bne_eq_false_iff_eq.mpr c4
    clear c4
    obtain rfl := Option.some.inj H
    go_enter Tryd.func28, Tryd.ntmps28
    go_wp2
    go_ret
    exact ⟨by first | rfl | (simp; done) | (simp [*]; done), by repeat (first | exact Drawn0.refl _ | apply Drawn0.step)⟩
   ·rw [if_neg c4] at H
    have c4b0 := beq_eq_false_iff_ne.mpr c4
    have c4b1 := bne_iff_ne.mpr c4
    by_cases c5 : a0.toList = ([112, 97, 114, 97, 108, 108, 101, 108] : List UInt8)
    ·rw [if_pos c5] at H
     have c5b0 := beq_iff_eq.mpr c5
     have c5b1 := bne_eq_false_iff_eq.mpr c5
     clear c5
     obtain rfl := Option.some.inj H
     go_enter Tryd.func28, Tryd.ntmps28
     go_wp2
     go_ret
     exact ⟨by first | rfl | (simp; done) | (simp [*]; done), by repeat (first | exact Drawn0.refl _ | apply Drawn0.step)⟩
    ·rw [if_neg c5] at H
     have c5b0 := beq_eq_false_iff_ne.mpr c5
     have c5b1 := bne_iff_ne.mpr c5
     by_cases c6 : a0.toList = ([102, 105, 110, 97, 108] : List UInt8)
     ·rw [if_pos c6] at H
      have c6b0 := beq_iff_eq.mpr c6
      have c6b1 := bne_eq_false_iff_eq.mpr c6
      clear c6
      obtain rfl := Option.some.inj H
      go_enter Tryd.func28, Tryd.ntmps28
      go_wp2
      go_ret
      exact ⟨by first | rfl | (simp; done) | (simp [*]; done), by repeat (first | exact Drawn0.refl _ | apply Drawn0.step)⟩
     ·rw [if_neg c6] at H
      have c6b0 := beq_eq_false_iff_ne.mpr c6
      have c6b1 := bne_iff_ne.mpr c6
      by_cases c7 : a0.toList = ([100, 101, 101, 112] : List UInt8)
      ·rw [if_pos c7] at H
       have c7b0 := beq_iff_eq.mpr c7
       have c7b1 := bne_eq_false_iff_eq.mpr c7
       clear c7
       obtain rfl := Option.some.inj H
       go_enter Tryd.func28, Tryd.ntmps28
       go_wp2
       go_ret
       exact ⟨by first | rfl | (simp; done) | (simp [*]; done), by repeat (first | exact Drawn0.refl _ | apply Drawn0.step)⟩
      ·rw [if_neg c7] at H
       have c7b0 := beq_eq_false_iff_ne.mpr c7
       have c7b1 := bne_iff_ne.mpr c7
       by_cases c8 : a0.toList = ([115, 104, 97, 108, 108, 111, 119] : List UInt8)
       ·rw [if_pos c8] at H
        have c8b0 := beq_iff_eq.mpr c8
        have c8b1 := bne_eq_false_iff_eq.mpr c8
        clear c8
        obtain rfl := Option.some.inj H
        go_enter Tryd.func28, Tryd.ntmps28
        go_wp2
        go_ret
        exact ⟨by first | rfl | (simp; done) | (simp [*]; done), by repeat (first | exact Drawn0.refl _ | apply Drawn0.step)⟩
       ·rw [if_neg c8] at H
        have c8b0 := beq_eq_false_iff_ne.mpr c8
        have c8b1 := bne_iff_ne.mpr c8
        by_cases c9 : a0.toList = ([101, 110, 116, 101, 114] : List UInt8)
        ·rw [if_pos c9] at H
         have c9b0 := beq_iff_eq.mpr c9
         have c9b1 := bne_eq_false_iff_eq.mpr c9
         clear c9
         obtain rfl := Option.some.inj H
         go_enter Tryd.func28, Tryd.ntmps28
         go_wp2
         go_ret
         exact ⟨by first | rfl | (simp; done) | (simp [*]; done), by repeat (first | exact Drawn0.refl _ | apply Drawn0.step)⟩
        ·rw [if_neg c9] at H
         have c9b0 := beq_eq_false_iff_ne.mpr c9
         have c9b1 := bne_iff_ne.mpr c9
         by_cases c10 : a0.toList = ([101, 120, 105, 116] : List UInt8)
         ·rw [if_pos c10] at H
          have c10b0 := beq_iff_eq.mpr c10
          have c10b1 := bne_eq_false_iff_eq.mpr c10
          clear c10
          obtain rfl := Option.some.inj H
          go_enter Tryd.func28, Tryd.ntmps28
          go_wp2
          go_ret
          exact ⟨by first | rfl | (simp; done) | (simp [*]; done), by repeat (first | exact Drawn0.refl _ | apply Drawn0.step)⟩
         ·rw [if_neg c10] at H
          have c10b0 := beq_eq_false_iff_ne.mpr c10
          have c10b1 := bne_iff_ne.mpr c10
          by_cases c11 : a0.toList = ([111, 110] : List UInt8)
          ·rw [if_pos c11] at H
           have c11b0 := beq_iff_eq.mpr c11
           have c11b1 := bne_eq_false_iff_eq.mpr c11
           clear c11
           obtain rfl := Option.some.inj H
           go_enter Tryd.func28, Tryd.ntmps28
           go_wp2
           go_ret
           exact ⟨by first | rfl | (simp; done) | (simp [*]; done), by repeat (first | exact Drawn0.refl _ | apply Drawn0.step)⟩
          ·rw [if_neg c11] at H
           have c11b0 := beq_eq_false_iff_ne.mpr c11
           have c11b1 := bne_iff_ne.mpr c11
           by_cases c12 : a0.toList = ([97, 117, 116, 111] : List UInt8)
           ·rw [if_pos c12] at H
            have c12b0 := beq_iff_eq.mpr c12
            have c12b1 := bne_eq_false_iff_eq.mpr c12
            clear c12
            obtain rfl := Option.some.inj H
            go_enter Tryd.func28, Tryd.ntmps28
            go_wp2
            go_ret
            exact ⟨by first | rfl | (simp; done) | (simp [*]; done), by repeat (first | exact Drawn0.refl _ | apply Drawn0.step)⟩
           ·rw [if_neg c12] at H
            have c12b0 := beq_eq_false_iff_ne.mpr c12
            have c12b1 := bne_iff_ne.mpr c12
            by_cases c13 : a0.toList = ([101, 110, 100] : List UInt8)
            ·rw [if_pos c13] at H
             have c13b0 := beq_iff_eq.mpr c13
             have c13b1 := bne_eq_false_iff_eq.mpr c13
             clear c13
             obtain rfl := Option.some.inj H
             go_enter Tryd.func28, Tryd.ntmps28
             go_wp2
             go_ret
             exact ⟨by first | rfl | (simp; done) | (simp [*]; done), by repeat (first | exact Drawn0.refl _ | apply Drawn0.step)⟩
            ·rw [if_neg c13] at H
             have c13b0 := beq_eq_false_iff_ne.mpr c13
             have c13b1 := bne_iff_ne.mpr c13
             by_cases c14 : a0.toList = ([105, 102] : List UInt8)
             ·rw [if_pos c14] at H
              have c14b0 := beq_iff_eq.mpr c14
              have c14b1 := bne_eq_false_iff_eq.mpr c14
              clear c14
              obtain rfl := Option.some.inj H
              go_enter Tryd.func28, Tryd.ntmps28
              go_wp2
              go_ret
              exact ⟨by first | rfl | (simp; done) | (simp [*]; done), by repeat (first | exact Drawn0.refl _ | apply Drawn0.step)⟩
             ·rw [if_neg c14] at H
              have c14b0 := beq_eq_false_iff_ne.mpr c14
              have c14b1 := bne_iff_ne.mpr c14
              by_cases c15 : a0.toList = ([103, 111] : List UInt8)
              ·rw [if_pos c15] at H
               have c15b0 := beq_iff_eq.mpr c15
               have c15b1 := bne_eq_false_iff_eq.mpr c15
               clear c15
               obtain rfl := Option.some.inj H
               go_enter Tryd.func28, Tryd.ntmps28
               go_wp2
               go_ret
               exact ⟨by first | rfl | (simp; done) | (simp [*]; done), by repeat (first | exact Drawn0.refl _ | apply Drawn0.step)⟩
              ·rw [if_neg c15] at H
               have c15b0 := beq_eq_false_iff_ne.mpr c15
               have c15b1 := bne_iff_ne.mpr c15
               by_cases c16 : a0.toList = ([105, 110, 110, 101, 114] : List UInt8)
               ·rw [if_pos c16] at H
                have c16b0 := beq_iff_eq.mpr c16
                have c16b1 := bne_eq_false_iff_eq.mpr c16
                clear c16
                obtain rfl := Option.some.inj H
                go_enter Tryd.func28, Tryd.ntmps28
                go_wp2
                go_ret
                exact ⟨by first | rfl | (simp; done) | (simp [*]; done), by repeat (first | exact Drawn0.refl _ | apply Drawn0.step)⟩
               ·rw [if_neg c16] at H
                have c16b0 := beq_eq_false_iff_ne.mpr c16
                have c16b1 := bne_iff_ne.mpr c16
                by_cases c17 : a0.toList = ([100, 111] : List UInt8)
                ·rw [if_pos c17] at H
                 have c17b0 := beq_iff_eq.mpr c17
                 have c17b1 := bne_eq_false_iff_eq.mpr c17
                 clear c17
                 obtain rfl := Option.some.inj H
                 go_enter Tryd.func28, Tryd.ntmps28
                 go_wp2
                 go_ret
                 exact ⟨by first | rfl | (simp; done) | (simp [*]; done), by repeat (first | exact Drawn0.refl _ | apply Drawn0.step)⟩
                ·rw [if_neg c17] at H
                 have c17b0 := beq_eq_false_iff_ne.mpr c17
                 have c17b1 := bne_iff_ne.mpr c17
                 by_cases c18 : a0.toList = ([115, 101, 116] : List UInt8)
                 ·rw [if_pos c18] at H
                  have c18b0 := beq_iff_eq.mpr c18
                  have c18b1 := bne_eq_false_iff_eq.mpr c18
                  clear c18
                  obtain rfl := Option.some.inj H
                  go_enter Tryd.func28, Tryd.ntmps28
                  go_wp2
                  go_ret
                  exact ⟨by first | rfl | (simp; done) | (simp [*]; done), by repeat (first | exact Drawn0.refl _ | apply Drawn0.step)⟩
                 ·rw [if_neg c18] at H
                  have c18b0 := beq_eq_false_iff_ne.mpr c18
                  have c18b1 := bne_iff_ne.mpr c18
                  by_cases c19 : a0.toList = ([114, 97, 105, 115, 101] : List UInt8)
                  ·rw [if_pos c19] at H
                   have c19b0 := beq_iff_eq.mpr c19
                   have c19b1 := bne_eq_false_iff_eq.mpr c19
                   clear c19
                   obtain rfl := Option.some.inj H
                   go_enter Tryd.func28, Tryd.ntmps28
                   go_wp2
                   go_ret
                   exact ⟨by first | rfl | (simp; done) | (simp [*]; done), by repeat (first | exact Drawn0.refl _ | apply Drawn0.step)⟩
                  ·rw [if_neg c19] at H
                   have c19b0 := beq_eq_false_iff_ne.mpr c19
                   have c19b1 := bne_iff_ne.mpr c19
                   by_cases c20 : a0.toList = ([115, 101, 110, 100] : List UInt8)
                   ·rw [if_pos c20] at H
                    have c20b0 := beq_iff_eq.mpr c20
                    have c20b1 := bne_eq_false_iff_eq.mpr c20
                    clear c20
                    obtain rfl := Option.some.inj H
                    go_enter Tryd.func28, Tryd.ntmps28
                    go_wp2
                    go_ret
                    exact ⟨by first | rfl | (simp; done) | (simp [*]; done), by repeat (first | exact Drawn0.refl _ | apply Drawn0.step)⟩
                   ·rw [if_neg c20] at H
                    have c20b0 := beq_eq_false_iff_ne.mpr c20
                    have c20b1 := bne_iff_ne.mpr c20
                    by_cases c21 : a0.toList = ([99, 97, 110, 99, 101, 108] : List UInt8)
                    ·rw [if_pos c21] at H
                     have c21b0 := beq_iff_eq.mpr c21
                     have c21b1 := bne_eq_false_iff_eq.mpr c21
                     clear c21
                     obtain rfl := Option.some.inj H
                     go_enter Tryd.func28, Tryd.ntmps28
                     go_wp2
                     go_ret
                     exact ⟨by first | rfl | (simp; done) | (simp [*]; done), by repeat (first | exact Drawn0.refl _ | apply Drawn0.step)⟩
                    ·rw [if_neg c21] at H
                     have c21b0 := beq_eq_false_iff_ne.mpr c21
                     have c21b1 := bne_iff_ne.mpr c21
                     by_cases c22 : a0.toList = ([108, 111, 103] : List UInt8)
                     ·rw [if_pos c22] at H
                      have c22b0 := beq_iff_eq.mpr c22
                      have c22b1 := bne_eq_false_iff_eq.mpr c22
                      clear c22
                      obtain rfl := Option.some.inj H
                      go_enter Tryd.func28, Tryd.ntmps28
                      go_wp2
                      go_ret
                      exact ⟨by first | rfl | (simp; done) | (simp [*]; done), by repeat (first | exact Drawn0.refl _ | apply Drawn0.step)⟩
                     ·rw [if_neg c22] at H
                      have c22b0 := beq_eq_false_iff_ne.mpr c22
                      have c22b1 := bne_iff_ne.mpr c22
                      by_cases c23 : a0.toList = ([116, 114, 117, 101] : List UInt8)
                      ·rw [if_pos c23] at H
                       have c23b0 := beq_iff_eq.mpr c23
                       have c23b1 := bne_eq_false_iff_eq.mpr c23
                       clear c23
                       obtain rfl := Option.some.inj H
                       go_enter Tryd.func28, Tryd.ntmps28
                       go_wp2
                       go_ret
                       exact ⟨by first | rfl | (simp; done) | (simp [*]; done), by repeat (first | exact Drawn0.refl _ | apply Drawn0.step)⟩
                      ·rw [if_neg c23] at H
                       have c23b0 := beq_eq_false_iff_ne.mpr c23
                       have c23b1 := bne_iff_ne.mpr c23
                       by_cases c24 : a0.toList = ([102, 97, 108, 115, 101] : List UInt8)
                       ·rw [if_pos c24] at H
                        have c24b0 := beq_iff_eq.mpr c24
                        have c24b1 := bne_eq_false_iff_eq.mpr c24
                        clear c24
                        obtain rfl := Option.some.inj H
                        go_enter Tryd.func28, Tryd.ntmps28
                        go_wp2
                        go_ret
                        exact ⟨by first | rfl | (simp; done) | (simp [*]; done), by repeat (first | exact Drawn0.refl _ | apply Drawn0.step)⟩
                       ·rw [if_neg c24] at H
                        have c24b0 := beq_eq_false_iff_ne.mpr c24
                        have c24b1 := bne_iff_ne.mpr c24
                        by_cases c25 : a0.toList = ([110, 111, 116] : List UInt8)
                        ·rw [if_pos c25] at H
                         have c25b0 := beq_iff_eq.mpr c25
                         have c25b1 := bne_eq_false_iff_eq.mpr c25
                         clear c25
                         obtain rfl := Option.some.inj H
                         go_enter Tryd.func28, Tryd.ntmps28
                         go_wp2
                         go_ret
                         exact ⟨by first | rfl | (simp; done) | (simp [*]; done), by repeat (first | exact Drawn0.refl _ | apply Drawn0.step)⟩
                        ·rw [if_neg c25] at H
                         have c25b0 := beq_eq_false_iff_ne.mpr c25
                         have c25b1 := bne_iff_ne.mpr c25
                         by_cases c26 : a0.toList = ([97, 110, 100] : List UInt8)
                         ·rw [if_pos c26] at H
                          have c26b0 := beq_iff_eq.mpr c26
                          have c26b1 := bne_eq_false_iff_eq.mpr c26
                          clear c26
                          obtain rfl := Option.some.inj H
                          go_enter Tryd.func28, Tryd.ntmps28
                          go_wp2
                          go_ret
                          exact ⟨by first | rfl | (simp; done) | (simp [*]; done), by repeat (first | exact Drawn0.refl _ | apply Drawn0.step)⟩
                         ·rw [if_neg c26] at H
                          have c26b0 := beq_eq_false_iff_ne.mpr c26
                          have c26b1 := bne_iff_ne.mpr c26
                          by_cases c27 : a0.toList = ([111, 114] : List UInt8)
                          ·rw [if_pos c27] at H
                           have c27b0 := beq_iff_eq.mpr c27
                           have c27b1 := bne_eq_false_iff_eq.mpr c27
                           clear c27
                           obtain rfl := Option.some.inj H
                           go_enter Tryd.func28, Tryd.ntmps28
                           go_wp2
                           go_ret
                           exact ⟨by first | rfl | (simp; done) | (simp [*]; done), by repeat (first | exact Drawn0.refl _ | apply Drawn0.step)⟩
                          ·rw [if_neg c27] at H
                           have c27b0 := beq_eq_false_iff_ne.mpr c27
                           have c27b1 := bne_iff_ne.mpr c27
                           by_cases c28 : a0.toList = ([105, 110] : List UInt8)
                           ·rw [if_pos c28] at H
                            have c28b0 := beq_iff_eq.mpr c28
                            have c28b1 := bne_eq_false_iff_eq.mpr c28
                            clear c28
                            obtain rfl := Option.some.inj H
                            go_enter Tryd.func28, Tryd.ntmps28
                            go_wp2
                            go_ret
                            exact ⟨by first | rfl | (simp; done) | (simp [*]; done), by repeat (first | exact Drawn0.refl _ | apply Drawn0.step)⟩
                           ·rw [if_neg c28] at H
                            have c28b0 := beq_eq_false_iff_ne.mpr c28
                            have c28b1 := bne_iff_ne.mpr c28
                            obtain rfl := Option.some.inj H
                            go_enter Tryd.func28, Tryd.ntmps28
                            go_wp2
                            go_ret
                            exact ⟨by first | rfl | (simp; done) | (simp [*]; done), by repeat (first | exact Drawn0.refl _ | apply Drawn0.step)⟩
end Go.Proofs.YtbngfhlciebeeaaDoor.L
end
section
namespace Go.Proofs.YtbngfhlciebeeaaDoor.L
open Go.RowKit Go.Proofs.YtbngfhlciebeeaaDoorW.PrintWords Go.Proofs.YtbngfhlciebeeaaDoorW.PrintLast Go.Proofs.YtbngfhlciebeeaaDoorW.PrintMore
attribute [local go_sem] max2_int min2_int max_two min_two max_three min_three max_four min_four   -- for this text's walks alone
set_option linter.unusedVariables false
set_option linter.unusedSimpArgs false
def whirligigref02_Means.l0 : Nat → ByteArray → ByteArray → Int → Option (Bool)
 | 0, _, _, _ => none
 | k + 1, x0, x3, x4 => if (wrap64 ((wrap64 (x4 + (x0.size : Int))) + 2)) ≤ (x3.size : Int) then (if 0 ≤ x4 then (if x4 ≤ (wrap64 ((wrap64 (x4 + (x0.size : Int))) + 2)) then (if 1 + x0.size ≤ 9223372036854775807 then (if (1 + x0.size) + 1 ≤ 9223372036854775807 then (if (x3.extract (x4 : Int).toNat ((wrap64 ((wrap64 (x4 + (x0.size : Int))) + 2)) : Int).toNat).toList = (((⟨#[32]⟩ : ByteArray) ++ x0) ++ (⟨#[32]⟩ : ByteArray)).toList then (if x0.toList = ([] : List UInt8) then (some false) else ((whirligigref02_word.f k x0 0).bind fun t276 => (some (t276 == (x0.size : Int))))) else (whirligigref02_Means.l0 k x0 x3 (wrap64 (x4 + 1)))) else (none)) else (none)) else (none)) else (none)) else (some false)
def whirligigref02_Means.f (k : Nat) (a0 : ByteArray) : Option (Bool) := whirligigref02_Means.l0 k a0 (⟨#[32, 99, 104, 97, 114, 116, 32, 118, 97, 114, 32, 115, 116, 97, 116, 101, 32, 112, 97, 114, 97, 108, 108, 101, 108, 32, 102, 105, 110, 97, 108, 32, 100, 101, 101, 112, 32, 115, 104, 97, 108, 108, 111, 119, 32, 101, 110, 116, 101, 114, 32, 101, 120, 105, 116, 32, 111, 110, 32, 97, 117, 116, 111, 32, 101, 110, 100, 32, 105, 102, 32, 103, 111, 32, 105, 110, 110, 101, 114, 32, 100, 111, 32, 115, 101, 116, 32, 114, 97, 105, 115, 101, 32, 115, 101, 110, 100, 32, 99, 97, 110, 99, 101, 108, 32, 108, 111, 103, 32, 116, 114, 117, 101, 32, 102, 97, 108, 115, 101, 32, 110, 111, 116, 32, 97, 110, 100, 32, 111, 114, 32, 105, 110, 32]⟩ : ByteArray) 0
set_option maxHeartbeats 8000000 in
set_option maxRecDepth 100000 in
theorem whirligigref02_Means.calls (k : Nat) (a0 : ByteArray) (r : Bool) (w : World) (h : whirligigref02_Means.f k a0 = some r) :
  Calls Tryd.prog 29 #[.string a0] w fun e w' => e = .returned (.bool r) ∧ Drawn0 w w' := by
 have H : (whirligigref02_Means.l0 k a0 (⟨#[32, 99, 104, 97, 114, 116, 32, 118, 97, 114, 32, 115, 116, 97, 116, 101, 32, 112, 97, 114, 97, 108, 108, 101, 108, 32, 102, 105, 110, 97, 108, 32, 100, 101, 101, 112, 32, 115, 104, 97, 108, 108, 111, 119, 32, 101, 110, 116, 101, 114, 32, 101, 120, 105, 116, 32, 111, 110, 32, 97, 117, 116, 111, 32, 101, 110, 100, 32, 105, 102, 32, 103, 111, 32, 105, 110, 110, 101, 114, 32, 100, 111, 32, 115, 101, 116, 32, 114, 97, 105, 115, 101, 32, 115, 101, 110, 100, 32, 99, 97, 110, 99, 101, 108, 32, 108, 111, 103, 32, 116, 114, 117, 101, 32, 102, 97, 108, 115, 101, 32, 110, 111, 116, 32, 97, 110, 100, 32, 111, 114, 32, 105, 110, 32]⟩ : ByteArray) 0) = some r := h
 clear h
 have H' := Aside0.mk H
 clear H
 go_enter Tryd.func29, Tryd.ntmps29
 go_wp2
 go_loopg [4] k (fun kq v4 w' => ∃ (x4_1 : Int), v4 = .int .i64 x4_1 ∧ Aside0 (whirligigref02_Means.l0 kq a0 (⟨#[32, 99, 104, 97, 114, 116, 32, 118, 97, 114, 32, 115, 116, 97, 116, 101, 32, 112, 97, 114, 97, 108, 108, 101, 108, 32, 102, 105, 110, 97, 108, 32, 100, 101, 101, 112, 32, 115, 104, 97, 108, 108, 111, 119, 32, 101, 110, 116, 101, 114, 32, 101, 120, 105, 116, 32, 111, 110, 32, 97, 117, 116, 111, 32, 101, 110, 100, 32, 105, 102, 32, 103, 111, 32, 105, 110, 110, 101, 114, 32, 100, 111, 32, 115, 101, 116, 32, 114, 97, 105, 115, 101, 32, 115, 101, 110, 100, 32, 99, 97, 110, 99, 101, 108, 32, 108, 111, 103, 32, 116, 114, 117, 101, 32, 102, 97, 108, 115, 101, 32, 110, 111, 116, 32, 97, 110, 100, 32, 111, 114, 32, 105, 110, 32]⟩ : ByteArray) x4_1 = some r) ∧ Aside0 (kq ≤ k) ∧ Drawn0 w w')
 case atStart => exact ⟨(0), (by first | rfl | (simp; done) | (simp [*]; done)), H', ⟨Nat.le_refl _⟩, by repeat (first | exact Drawn0.refl _ | apply Drawn0.step)⟩
 case round =>
  clear H'
  obtain ⟨x4_1, rfl, HA, HK1, ⟨m1, rfl⟩⟩ := hrel
  cases gk with
  | zero => exact absurd HA.out (by simp [whirligigref02_Means.l0])
  | succ k1 =>
   have H := HA.out
   clear HA
   simp only [whirligigref02_Means.l0] at H
   by_cases c2 : (wrap64 ((wrap64 (x4_1 + (a0.size : Int))) + 2)) ≤ ((⟨#[32, 99, 104, 97, 114, 116, 32, 118, 97, 114, 32, 115, 116, 97, 116, 101, 32, 112, 97, 114, 97, 108, 108, 101, 108, 32, 102, 105, 110, 97, 108, 32, 100, 101, 101, 112, 32, 115, 104, 97, 108, 108, 111, 119, 32, 101, 110, 116, 101, 114, 32, 101, 120, 105, 116, 32, 111, 110, 32, 97, 117, 116, 111, 32, 101, 110, 100, 32, 105, 102, 32, 103, 111, 32, 105, 110, 110, 101, 114, 32, 100, 111, 32, 115, 101, 116, 32, 114, 97, 105, 115, 101, 32, 115, 101, 110, 100, 32, 99, 97, 110, 99, 101, 108, 32, 108, 111, 103, 32, 116, 114, 117, 101, 32, 102, 97, 108, 115, 101, 32, 110, 111, 116, 32, 97, 110, 100, 32, 111, 114, 32, 105, 110, 32]⟩ : ByteArray).size : Int)
   ·rw [if_pos c2] at H
    have c2b0 := decide_eq_true c2
    have c2b0z : decide ((wrap64 ((wrap64 (x4_1 + (a0.size : Int))) + 2)) ≤ 134) = true := c2b0
    clear c2
    by_cases c3 : 0 ≤ x4_1
    ·rw [if_pos c3] at H
     have c3b0 := eq_true c3
     have c3b1 := decide_eq_true c3
     clear c3
     by_cases c4 : x4_1 ≤ (wrap64 ((wrap64 (x4_1 + (a0.size : Int))) + 2))
     ·rw [if_pos c4] at H
      have c4b0 := eq_true c4
      have c4b1 := decide_eq_true c4
      have c5b0 := eq_true (qD : (wrap64 ((wrap64 (x4_1 + (a0.size : Int))) + 2)) ≤ ((⟨#[32, 99, 104, 97, 114, 116, 32, 118, 97, 114, 32, 115, 116, 97, 116, 101, 32, 112, 97, 114, 97, 108, 108, 101, 108, 32, 102, 105, 110, 97, 108, 32, 100, 101, 101, 112, 32, 115, 104, 97, 108, 108, 111, 119, 32, 101, 110, 116, 101, 114, 32, 101, 120, 105, 116, 32, 111, 110, 32, 97, 117, 116, 111, 32, 101, 110, 100, 32, 105, 102, 32, 103, 111, 32, 105, 110, 110, 101, 114, 32, 100, 111, 32, 115, 101, 116, 32, 114, 97, 105, 115, 101, 32, 115, 101, 110, 100, 32, 99, 97, 110, 99, 101, 108, 32, 108, 111, 103, 32, 116, 114, 117, 101, 32, 102, 97, 108, 115, 101, 32, 110, 111, 116, 32, 97, 110, 100, 32, 111, 114, 32, 105, 110, 32]⟩ : ByteArray).size : Int))
      have c5b0z : ((wrap64 ((wrap64 (x4_1 + (a0.size : Int))) + 2)) ≤ (134 : Int)) = True := c5b0
      by_cases c6 : 1 + a0.size ≤ 9223372036854775807
      ·rw [if_pos c6] at H
       have c6b0 := eq_true c6
       have c6b1 := decide_eq_true c6
       try have c6b2 : (9223372036854775807 < 1 + a0.size) = False := eq_false (Nat.not_lt.2 c6)
       by_cases c7 : (1 + a0.size) + 1 ≤ 9223372036854775807
       ·rw [if_pos c7] at H
        have c7b0 := eq_true c7
        have c7b1 := decide_eq_true c7
        try have c7b2 : (9223372036854775807 < (1 + a0.size) + 1) = False := eq_false (Nat.not_lt.2 c7)
        by_cases c8 : ((⟨#[32, 99, 104, 97, 114, 116, 32, 118, 97, 114, 32, 115, 116, 97, 116, 101, 32, 112, 97, 114, 97, 108, 108, 101, 108, 32, 102, 105, 110, 97, 108, 32, 100, 101, 101, 112, 32, 115, 104, 97, 108, 108, 111, 119, 32, 101, 110, 116, 101, 114, 32, 101, 120, 105, 116, 32, 111, 110, 32, 97, 117, 116, 111, 32, 101, 110, 100, 32, 105, 102, 32, 103, 111, 32, 105, 110, 110, 101, 114, 32, 100, 111, 32, 115, 101, 116, 32, 114, 97, 105, 115, 101, 32, 115, 101, 110, 100, 32, 99, 97, 110, 99, 101, 108, 32, 108, 111, 103, 32, 116, 114, 117, 101, 32, 102, 97, 108, 115, 101, 32, 110, 111, 116, 32, 97, 110, 100, 32, 111, 114, 32, 105, 110, 32]⟩ : ByteArray).extract (x4_1 : Int).toNat ((wrap64 ((wrap64 (x4_1 + (a0.size : Int))) + 2)) : Int).toNat).toList = (((⟨#[32]⟩ : ByteArray) ++ a0) ++ (⟨#[32]⟩ : ByteArray)).toList
        ·rw [if_pos c8] at H
         have c8b0 := beq_iff_eq.mpr c8
         have c8b1 := bne_eq_false_iff_eq.mpr c8
         clear c8
         by_cases c9 : a0.toList = ([] : List UInt8)
         ·rw [if_pos c9] at H
          have c9b0 := beq_iff_eq.mpr c9
          have c9b1 := bne_eq_false_iff_eq.mpr c9
          clear c9
          obtain rfl := Option.some.inj H
          go_wp2
          go_ret
          exact ⟨by first | rfl | (simp; done) | (simp [*]; done), by repeat (first | exact Drawn0.refl _ | apply Drawn0.step)⟩
         ·rw [if_neg c9] at H
          have c9b0 := beq_eq_false_iff_ne.mpr c9
          have c9b1 := bne_iff_ne.mpr c9
          replace H := Option.bind_eq_some_iff.mp H
          obtain ⟨t276, A100, H⟩ := H
          (try dsimp -simprocs only at H)
          have A10 := Aside0.mk A100
          clear A100
          obtain rfl := Option.some.inj H
          go_wp2_with (first | (go_at_call 71; (with_reducible refine (whirligigref02_word.calls k1 a0 0 t276 _ A10.out).mono ?_); rintro e w' ⟨rfl, ⟨nd, rfl⟩⟩))
          go_ret
          exact ⟨by first | rfl | (simp; done) | (simp [*]; done), by repeat (first | exact Drawn0.refl _ | apply Drawn0.step)⟩
        ·rw [if_neg c8] at H
         have c8b0 := beq_eq_false_iff_ne.mpr c8
         have c8b1 := bne_iff_ne.mpr c8
         have H' := Aside0.mk H
         clear H
         go_wp2
         go_roundg k1
         case measure => have := HK1.out; omega
         case rel => exact ⟨(wrap64 (x4_1 + 1)), (by first | rfl | (simp; done) | (simp [*]; done)), H', ⟨by have := HK1.out; omega⟩, by repeat (first | exact Drawn0.refl _ | apply Drawn0.step)⟩
       ·rw [if_neg c7] at H
        exact absurd H (by simp)
      ·rw [if_neg c6] at H
       exact absurd H (by simp)
     ·rw [if_neg c4] at H
      exact absurd H (by simp)
    ·rw [if_neg c3] at H
     exact absurd H (by simp)
   ·rw [if_neg c2] at H
    have c2b0 := decide_eq_false c2
    have c2b0z : decide ((wrap64 ((wrap64 (x4_1 + (a0.size : Int))) + 2)) ≤ 134) = false := c2b0
    clear c2
    obtain rfl := Option.some.inj H
    go_wp2
    go_ret
    exact ⟨by first | rfl | (simp; done) | (simp [*]; done), by repeat (first | exact Drawn0.refl _ | apply Drawn0.step)⟩
end Go.Proofs.YtbngfhlciebeeaaDoor.L
end
