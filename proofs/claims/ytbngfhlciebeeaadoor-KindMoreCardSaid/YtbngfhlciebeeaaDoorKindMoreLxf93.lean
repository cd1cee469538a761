/- Printed and hand-written steps towards the row (KindMore), those that it reaches. -/
import Derived.Test.YtbngfhlciebeeaaDoorKindMoreG4
import Derived.Test.YtbngfhlciebeeaaDoorKindMoreG5
import Derived.Test.YtbngfhlciebeeaaDoorKindMoreG18
import Derived.Test.YtbngfhlciebeeaaDoorKindMoreG15
import Derived.Test.YtbngfhlciebeeaaDoorKindMoreLxf120
namespace Go.Proofs.YtbngfhlciebeeaaDoor.L
open Go.RowKit Go.Proofs.YtbngfhlciebeeaaDoorW.PrintWords Go.Proofs.YtbngfhlciebeeaaDoorW.PrintLast Go.Proofs.YtbngfhlciebeeaaDoorW.PrintMore
attribute [local go_sem] max2_int min2_int max_two min_two max_three min_three max_four min_four   -- for this text's walks alone
set_option linter.unusedVariables false
set_option linter.unusedSimpArgs false
attribute [local go_sem high] eqA156
def expr_Node_right.j0 : Nat → Int → Bool → Int → Int → Int → ByteArray → ByteArray → Int → Int → Int → Int → Int → ByteArray → ByteArray → Int → Int → Option (Bool)
 | 0, _, _, _, _, _, _, _, _, _, _, _, _, _, _, _, _ => none
 | k + 1, x1, x36, x774000, x774001, x774002, x774003, x774004, x774005, x774006, x775000, x775001, x775002, x775003, x775004, x775005, x775006 => if x36 = true then (if (x774000 == x775000 && ((x774001 == x775001 && (x774002 == x775002 && (x774003.toList == x775003.toList))) && (x774005 == x775005 && (x774006 == x775006)))) = true then ((tok_Name.f k x774004).bind fun t776 => (some t776)) else (some false)) else ((expr_one.f x774000).bind fun t777 => (if t777 = true then (if (x774000 == x775000 && ((x774001 == x775001 && (x774002 == x775002 && (x774003.toList == x775003.toList))) && (x774004.toList == x775004.toList && (x774005 == (wrap64 (x1 - 1)) && (x774006 == x775006))))) = true then (if x774005 ≥ 0 then (some (decide (x774005 < x1))) else (some false)) else (some false)) else ((expr_two.f x774000).bind fun t778 => (if t778 = true then (if (x774000 == x775000 && ((x774001 == x775001 && (x774002 == x775002 && (x774003.toList == x775003.toList))) && (x774004.toList == x775004.toList && (x774006 == (wrap64 (x1 - 1)))))) = true then (if x774005 ≥ 0 then (some (decide (x774005 < x1))) else (some false)) else (some false)) else (some false)))))
def expr_Node_right.f (k : Nat) (a0_0 : Int) (a0_1 : Int) (a0_2 : Int) (a0_3 : ByteArray) (a0_4 : ByteArray) (a0_5 : Int) (a0_6 : Int) (a1 : Int) : Option (Bool) := if a0_0 = 0 then (if (a0_4.toList == ([] : List UInt8) && (a0_5 == 0 && (a0_6 == 0))) = true then ((val_Value_Right.f a0_1 a0_2 a0_3).bind fun t775 => (if t775 = true then (if a0_1 = 1 then (some (decide (a0_2 ≥ 0))) else (some true)) else (some false))) else (some false)) else (if a0_0 = 16 then (expr_Node_right.j0 k a1 true a0_0 a0_1 a0_2 a0_3 a0_4 a0_5 a0_6 a0_0 0 0 (⟨#[]⟩ : ByteArray) (⟨#[]⟩ : ByteArray) 0 0) else (expr_Node_right.j0 k a1 (a0_0 == 17) a0_0 a0_1 a0_2 a0_3 a0_4 a0_5 a0_6 a0_0 0 0 (⟨#[]⟩ : ByteArray) (⟨#[]⟩ : ByteArray) 0 0))
theorem nil_toL : (⟨#[]⟩ : ByteArray).toList = [] := by rw [ByteArray.toList_eq]
set_option maxHeartbeats 8000000 in
set_option maxRecDepth 100000 in
theorem expr_Node_right.calls (k : Nat) (a0_0 : Int) (a0_1 : Int) (a0_2 : Int) (a0_3 : ByteArray) (a0_4 : ByteArray) (a0_5 : Int) (a0_6 : Int) (a1 : Int) (r : Bool) (w : World) (hL : Laid w) (h : expr_Node_right.f k a0_0 a0_1 a0_2 a0_3 a0_4 a0_5 a0_6 a1 = some r) :
  Calls Tryd.prog 93 #[.agg #[.int .i64 a0_0, .int .i64 a0_1, .int .i64 a0_2, .string a0_3, .string a0_4, .int .i64 a0_5, .int .i64 a0_6], .int .i64 a1] w fun e w' => e = .returned (.bool r) ∧ Below w.heap.size w w' := by
 have hu156 := Tryd.underlying156
 have hu103 := Tryd.underlying103
 have HB := Aside0.mk (Below.refl w.heap.size w)
 have HLD := Aside0.mk hL
 clear hL
 have H : (if a0_0 = 0 then (if (a0_4.toList == ([] : List UInt8) && (a0_5 == 0 && (a0_6 == 0))) = true then ((val_Value_Right.f a0_1 a0_2 a0_3).bind fun t775 => (if t775 = true then (if a0_1 = 1 then (some (decide (a0_2 ≥ 0))) else (some true)) else (some false))) else (some false)) else (if a0_0 = 16 then (expr_Node_right.j0 k a1 true a0_0 a0_1 a0_2 a0_3 a0_4 a0_5 a0_6 a0_0 0 0 (⟨#[]⟩ : ByteArray) (⟨#[]⟩ : ByteArray) 0 0) else (expr_Node_right.j0 k a1 (a0_0 == 17) a0_0 a0_1 a0_2 a0_3 a0_4 a0_5 a0_6 a0_0 0 0 (⟨#[]⟩ : ByteArray) (⟨#[]⟩ : ByteArray) 0 0))) = some r := h
 clear h
 by_cases c3 : a0_0 = 0
 ·rw [if_pos c3] at H
  have c3b0 := beq_iff_eq.mpr c3
  have c3b1 := bne_eq_false_iff_eq.mpr c3
  clear c3
  by_cases c4 : (a0_4.toList == ([] : List UInt8) && (a0_5 == 0 && (a0_6 == 0))) = true
  ·rw [if_pos c4] at H
   have c4b0 : (a0_4.toList == ([] : List UInt8) && (a0_5 == 0 && (a0_6 == 0))) = true := c4
   (try (have c4b1 : decide (a0_4.toList = ([] : List UInt8) && (a0_5 == 0 && (a0_6 == 0))) = true := by simpa using c4))
   (try (have c4b2 : (a0_4.toList == ([] : List UInt8) && (a0_5 == 0 && (a0_6 == 0))) = true := by simpa using c4))
   have c4n := c4b0
   simp only [beq_self_eq_true, Bool.true_and, nil_toL, eq_nil_isEmpty] at c4n
   clear c4
   replace H := Option.bind_eq_some_iff.mp H
   obtain ⟨t775, A50, H⟩ := H
   (try dsimp -simprocs only at H)
   have A5 := Aside0.mk A50
   clear A50
   by_cases c6 : t775 = true
   ·subst c6
    rw [if_pos rfl] at H
    by_cases c7 : a0_1 = 1
    ·rw [if_pos c7] at H
     have c7b0 := beq_iff_eq.mpr c7
     have c7b1 := bne_eq_false_iff_eq.mpr c7
     clear c7
     obtain rfl := Option.some.inj H
     go_enter Tryd.func93, Tryd.ntmps93
     go_upto_region 3 with (first | ((with_reducible refine gd 2 rfl ?_); refine bx 2 #[.int .i64 a0_0, .int .i64 a0_1, .int .i64 a0_2, .string a0_3, .string a0_4, .int .i64 a0_5, .int .i64 a0_6] 156 ?_; intro gb773 hg w38 hbox hb; have BK773 := Aside0.mk (hbox); have GW773 := geS hg; have GE773 := geS hg; replace HB := bst hb; clear hb hbox hg; obtain ⟨hcz39_0, hcz39_1, hcz39_2, hcz39_3, hcz39_4, hcz39_5, hcz39_6, hfz39_0, hfz39_1, hfz39_2, hfz39_3, hfz39_4, hfz39_5, hfz39_6⟩ := cells7 BK773.out) | ((with_reducible refine gd 5 rfl ?_); refine bx 5 #[.int .i64 0, .int .i64 0, .int .i64 0, .string (⟨#[]⟩ : ByteArray), .string (⟨#[]⟩ : ByteArray), .int .i64 0, .int .i64 0] 156 ?_; intro gb774 hg w40 hbox hb; have BK774 := Aside0.mk (hbox); have GW774 := geS hg; have GE774 := geS hg; have NB773_774 := neS gb773 hg; have NB774_773 := neT gb773 hg; replace BK773 := kb gb773 hb; replace HB := bst hb; clear hb hbox hg; have hnb41 := NB774_773.out; have hnc41 := NB773_774.out; obtain ⟨hcz42_0, hcz42_1, hcz42_2, hcz42_3, hcz42_4, hcz42_5, hcz42_6, hfz42_0, hfz42_1, hfz42_2, hfz42_3, hfz42_4, hfz42_5, hfz42_6⟩ := cells7 BK774.out; obtain ⟨hcz43_0, hcz43_1, hcz43_2, hcz43_3, hcz43_4, hcz43_5, hcz43_6, hfz43_0, hfz43_1, hfz43_2, hfz43_3, hfz43_4, hfz43_5, hfz43_6⟩ := cells7 BK773.out))
     (try simp only [Act.put, List.setIfInBounds_toArray, List.set_cons_zero, List.set_cons_succ])
     refine tell2 w gb773 gb774 (.cells #[.int .i64 a0_0, .int .i64 a0_1, .int .i64 a0_2, .string a0_3, .string a0_4, .int .i64 a0_5, .int .i64 a0_6] 156 (0, 0)) (.cells #[.int .i64 a0_0, .int .i64 0, .int .i64 0, .string (⟨#[]⟩ : ByteArray), .string (⟨#[]⟩ : ByteArray), .int .i64 0, .int .i64 0] 156 (0, 0)) qK (blk_is (blk_pl (blk_pl (blk_pl (blk_pl (blk_pl (blk_pl (blk_pl BK774.out))))))) rfl) qB ?_
     intro W1 q1 q2 q3
     clear BK773 BK774 HB
     have BK773 := Aside0.mk q1
     have BK774 := Aside0.mk q2
     have HB := Aside0.mk q3
     clear q1 q2 q3
     have hnb := NB774_773.out
     have hnc := NB773_774.out
     obtain ⟨hA0, hA1, hA2, hA3, hA4, hA5, hA6, hB0, hB1, hB2, hB3, hB4, hB5, hB6⟩ := cells7 BK773.out
     obtain ⟨hC0, hC1, hC2, hC3, hC4, hC5, hC6, hD0, hD1, hD2, hD3, hD4, hD5, hD6⟩ := cells7 BK774.out
     go_upto_region 5 with fail
     (try simp only [Act.put, List.setIfInBounds_toArray, List.set_cons_zero, List.set_cons_succ])
     refine tell2 w gb773 gb774 (.cells #[.int .i64 a0_0, .int .i64 a0_1, .int .i64 a0_2, .string a0_3, .string a0_4, .int .i64 a0_5, .int .i64 a0_6] 156 (0, 0)) (.cells #[.int .i64 a0_0, .int .i64 a0_1, .int .i64 a0_2, .string a0_3, .string (⟨#[]⟩ : ByteArray), .int .i64 0, .int .i64 0] 156 (0, 0)) qK (blk_is (blk_pl (blk_pl (blk_pl BK774.out))) rfl) qB ?_
     intro W1 q1 q2 q3
     clear BK773 BK774 HB
     have BK773 := Aside0.mk q1
     have BK774 := Aside0.mk q2
     have HB := Aside0.mk q3
     clear q1 q2 q3
     clear hA0 hA1 hA2 hA3 hA4 hA5 hA6 hB0 hB1 hB2 hB3 hB4 hB5 hB6 hC0 hC1 hC2 hC3 hC4 hC5 hC6 hD0 hD1 hD2 hD3 hD4 hD5 hD6
     obtain ⟨hA0, hA1, hA2, hA3, hA4, hA5, hA6, hB0, hB1, hB2, hB3, hB4, hB5, hB6⟩ := cells7 BK773.out
     obtain ⟨hC0, hC1, hC2, hC3, hC4, hC5, hC6, hD0, hD1, hD2, hD3, hD4, hD5, hD6⟩ := cells7 BK774.out
     go_wp2_with (first | (go_at_call 66; (with_reducible refine (val_Value_Right.calls a0_1 a0_2 a0_3 true _ A5.out).mono ?_); rintro e w14 ⟨rfl, hb⟩; replace BK773 := kb gb773 hb; replace BK774 := kp gb774 (.cells #[.int .i64 a0_0, .int .i64 a0_1, .int .i64 a0_2, .string a0_3, .string (⟨#[]⟩ : ByteArray), .int .i64 0, .int .i64 0] 156 (0, 0)) hb; replace HB := bst hb; (try clear hb); obtain ⟨hcz15_0, hcz15_1, hcz15_2, hcz15_3, hcz15_4, hcz15_5, hcz15_6, hfz15_0, hfz15_1, hfz15_2, hfz15_3, hfz15_4, hfz15_5, hfz15_6⟩ := cells7 BK773.out))
     go_ret
     exact ⟨qR, qB⟩
    ·rw [if_neg c7] at H
     have c7b0 := beq_eq_false_iff_ne.mpr c7
     have c7b1 := bne_iff_ne.mpr c7
     obtain rfl := Option.some.inj H
     go_enter Tryd.func93, Tryd.ntmps93
     go_upto_region 3 with (first | ((with_reducible refine gd 2 rfl ?_); refine bx 2 #[.int .i64 a0_0, .int .i64 a0_1, .int .i64 a0_2, .string a0_3, .string a0_4, .int .i64 a0_5, .int .i64 a0_6] 156 ?_; intro gb773 hg w38 hbox hb; have BK773 := Aside0.mk (hbox); have GW773 := geS hg; have GE773 := geS hg; replace HB := bst hb; clear hb hbox hg; obtain ⟨hcz39_0, hcz39_1, hcz39_2, hcz39_3, hcz39_4, hcz39_5, hcz39_6, hfz39_0, hfz39_1, hfz39_2, hfz39_3, hfz39_4, hfz39_5, hfz39_6⟩ := cells7 BK773.out) | ((with_reducible refine gd 5 rfl ?_); refine bx 5 #[.int .i64 0, .int .i64 0, .int .i64 0, .string (⟨#[]⟩ : ByteArray), .string (⟨#[]⟩ : ByteArray), .int .i64 0, .int .i64 0] 156 ?_; intro gb774 hg w40 hbox hb; have BK774 := Aside0.mk (hbox); have GW774 := geS hg; have GE774 := geS hg; have NB773_774 := neS gb773 hg; have NB774_773 := neT gb773 hg; replace BK773 := kb gb773 hb; replace HB := bst hb; clear hb hbox hg; have hnb41 := NB774_773.out; have hnc41 := NB773_774.out; obtain ⟨hcz42_0, hcz42_1, hcz42_2, hcz42_3, hcz42_4, hcz42_5, hcz42_6, hfz42_0, hfz42_1, hfz42_2, hfz42_3, hfz42_4, hfz42_5, hfz42_6⟩ := cells7 BK774.out; obtain ⟨hcz43_0, hcz43_1, hcz43_2, hcz43_3, hcz43_4, hcz43_5, hcz43_6, hfz43_0, hfz43_1, hfz43_2, hfz43_3, hfz43_4, hfz43_5, hfz43_6⟩ := cells7 BK773.out))
     (try simp only [Act.put, List.setIfInBounds_toArray, List.set_cons_zero, List.set_cons_succ])
     refine tell2 w gb773 gb774 (.cells #[.int .i64 a0_0, .int .i64 a0_1, .int .i64 a0_2, .string a0_3, .string a0_4, .int .i64 a0_5, .int .i64 a0_6] 156 (0, 0)) (.cells #[.int .i64 a0_0, .int .i64 0, .int .i64 0, .string (⟨#[]⟩ : ByteArray), .string (⟨#[]⟩ : ByteArray), .int .i64 0, .int .i64 0] 156 (0, 0)) qK (blk_is (blk_pl (blk_pl (blk_pl (blk_pl (blk_pl (blk_pl (blk_pl BK774.out))))))) rfl) qB ?_
     intro W1 q1 q2 q3
     clear BK773 BK774 HB
     have BK773 := Aside0.mk q1
     have BK774 := Aside0.mk q2
     have HB := Aside0.mk q3
     clear q1 q2 q3
     have hnb := NB774_773.out
     have hnc := NB773_774.out
     obtain ⟨hA0, hA1, hA2, hA3, hA4, hA5, hA6, hB0, hB1, hB2, hB3, hB4, hB5, hB6⟩ := cells7 BK773.out
     obtain ⟨hC0, hC1, hC2, hC3, hC4, hC5, hC6, hD0, hD1, hD2, hD3, hD4, hD5, hD6⟩ := cells7 BK774.out
     go_upto_region 5 with fail
     (try simp only [Act.put, List.setIfInBounds_toArray, List.set_cons_zero, List.set_cons_succ])
     refine tell2 w gb773 gb774 (.cells #[.int .i64 a0_0, .int .i64 a0_1, .int .i64 a0_2, .string a0_3, .string a0_4, .int .i64 a0_5, .int .i64 a0_6] 156 (0, 0)) (.cells #[.int .i64 a0_0, .int .i64 a0_1, .int .i64 a0_2, .string a0_3, .string (⟨#[]⟩ : ByteArray), .int .i64 0, .int .i64 0] 156 (0, 0)) qK (blk_is (blk_pl (blk_pl (blk_pl BK774.out))) rfl) qB ?_
     intro W1 q1 q2 q3
     clear BK773 BK774 HB
     have BK773 := Aside0.mk q1
     have BK774 := Aside0.mk q2
     have HB := Aside0.mk q3
     clear q1 q2 q3
     clear hA0 hA1 hA2 hA3 hA4 hA5 hA6 hB0 hB1 hB2 hB3 hB4 hB5 hB6 hC0 hC1 hC2 hC3 hC4 hC5 hC6 hD0 hD1 hD2 hD3 hD4 hD5 hD6
     obtain ⟨hA0, hA1, hA2, hA3, hA4, hA5, hA6, hB0, hB1, hB2, hB3, hB4, hB5, hB6⟩ := cells7 BK773.out
     obtain ⟨hC0, hC1, hC2, hC3, hC4, hC5, hC6, hD0, hD1, hD2, hD3, hD4, hD5, hD6⟩ := cells7 BK774.out
     go_wp2_with (first | (go_at_call 66; (with_reducible refine (val_Value_Right.calls a0_1 a0_2 a0_3 true _ A5.out).mono ?_); rintro e w22 ⟨rfl, hb⟩; replace BK773 := kb gb773 hb; replace BK774 := kp gb774 (.cells #[.int .i64 a0_0, .int .i64 a0_1, .int .i64 a0_2, .string a0_3, .string (⟨#[]⟩ : ByteArray), .int .i64 0, .int .i64 0] 156 (0, 0)) hb; replace HB := bst hb; (try clear hb); obtain ⟨hcz23_0, hcz23_1, hcz23_2, hcz23_3, hcz23_4, hcz23_5, hcz23_6, hfz23_0, hfz23_1, hfz23_2, hfz23_3, hfz23_4, hfz23_5, hfz23_6⟩ := cells7 BK773.out))
     go_ret
     exact ⟨qR, qB⟩
   ·replace c6 := Bool.eq_false_iff.mpr c6
    subst c6
    rw [if_neg (show ¬ (false = true) by decide)] at H
    obtain rfl := Option.some.inj H
    go_enter Tryd.func93, Tryd.ntmps93
    go_upto_region 3 with (first | ((with_reducible refine gd 2 rfl ?_); refine bx 2 #[.int .i64 a0_0, .int .i64 a0_1, .int .i64 a0_2, .string a0_3, .string a0_4, .int .i64 a0_5, .int .i64 a0_6] 156 ?_; intro gb773 hg w38 hbox hb; have BK773 := Aside0.mk (hbox); have GW773 := geS hg; have GE773 := geS hg; replace HB := bst hb; clear hb hbox hg; obtain ⟨hcz39_0, hcz39_1, hcz39_2, hcz39_3, hcz39_4, hcz39_5, hcz39_6, hfz39_0, hfz39_1, hfz39_2, hfz39_3, hfz39_4, hfz39_5, hfz39_6⟩ := cells7 BK773.out) | ((with_reducible refine gd 5 rfl ?_); refine bx 5 #[.int .i64 0, .int .i64 0, .int .i64 0, .string (⟨#[]⟩ : ByteArray), .string (⟨#[]⟩ : ByteArray), .int .i64 0, .int .i64 0] 156 ?_; intro gb774 hg w40 hbox hb; have BK774 := Aside0.mk (hbox); have GW774 := geS hg; have GE774 := geS hg; have NB773_774 := neS gb773 hg; have NB774_773 := neT gb773 hg; replace BK773 := kb gb773 hb; replace HB := bst hb; clear hb hbox hg; have hnb41 := NB774_773.out; have hnc41 := NB773_774.out; obtain ⟨hcz42_0, hcz42_1, hcz42_2, hcz42_3, hcz42_4, hcz42_5, hcz42_6, hfz42_0, hfz42_1, hfz42_2, hfz42_3, hfz42_4, hfz42_5, hfz42_6⟩ := cells7 BK774.out; obtain ⟨hcz43_0, hcz43_1, hcz43_2, hcz43_3, hcz43_4, hcz43_5, hcz43_6, hfz43_0, hfz43_1, hfz43_2, hfz43_3, hfz43_4, hfz43_5, hfz43_6⟩ := cells7 BK773.out))
    (try simp only [Act.put, List.setIfInBounds_toArray, List.set_cons_zero, List.set_cons_succ])
    refine tell2 w gb773 gb774 (.cells #[.int .i64 a0_0, .int .i64 a0_1, .int .i64 a0_2, .string a0_3, .string a0_4, .int .i64 a0_5, .int .i64 a0_6] 156 (0, 0)) (.cells #[.int .i64 a0_0, .int .i64 0, .int .i64 0, .string (⟨#[]⟩ : ByteArray), .string (⟨#[]⟩ : ByteArray), .int .i64 0, .int .i64 0] 156 (0, 0)) qK (blk_is (blk_pl (blk_pl (blk_pl (blk_pl (blk_pl (blk_pl (blk_pl BK774.out))))))) rfl) qB ?_
    intro W1 q1 q2 q3
    clear BK773 BK774 HB
    have BK773 := Aside0.mk q1
    have BK774 := Aside0.mk q2
    have HB := Aside0.mk q3
    clear q1 q2 q3
    have hnb := NB774_773.out
    have hnc := NB773_774.out
    obtain ⟨hA0, hA1, hA2, hA3, hA4, hA5, hA6, hB0, hB1, hB2, hB3, hB4, hB5, hB6⟩ := cells7 BK773.out
    obtain ⟨hC0, hC1, hC2, hC3, hC4, hC5, hC6, hD0, hD1, hD2, hD3, hD4, hD5, hD6⟩ := cells7 BK774.out
    go_upto_region 5 with fail
    (try simp only [Act.put, List.setIfInBounds_toArray, List.set_cons_zero, List.set_cons_succ])
    refine tell2 w gb773 gb774 (.cells #[.int .i64 a0_0, .int .i64 a0_1, .int .i64 a0_2, .string a0_3, .string a0_4, .int .i64 a0_5, .int .i64 a0_6] 156 (0, 0)) (.cells #[.int .i64 a0_0, .int .i64 a0_1, .int .i64 a0_2, .string a0_3, .string (⟨#[]⟩ : ByteArray), .int .i64 0, .int .i64 0] 156 (0, 0)) qK (blk_is (blk_pl (blk_pl (blk_pl BK774.out))) rfl) qB ?_
    intro W1 q1 q2 q3
    clear BK773 BK774 HB
    have BK773 := Aside0.mk q1
    have BK774 := Aside0.mk q2
    have HB := Aside0.mk q3
    clear q1 q2 q3
    clear hA0 hA1 hA2 hA3 hA4 hA5 hA6 hB0 hB1 hB2 hB3 hB4 hB5 hB6 hC0 hC1 hC2 hC3 hC4 hC5 hC6 hD0 hD1 hD2 hD3 hD4 hD5 hD6
    obtain ⟨hA0, hA1, hA2, hA3, hA4, hA5, hA6, hB0, hB1, hB2, hB3, hB4, hB5, hB6⟩ := cells7 BK773.out
    obtain ⟨hC0, hC1, hC2, hC3, hC4, hC5, hC6, hD0, hD1, hD2, hD3, hD4, hD5, hD6⟩ := cells7 BK774.out
    go_wp2_with (first | (go_at_call 66; (with_reducible refine (val_Value_Right.calls a0_1 a0_2 a0_3 false _ A5.out).mono ?_); rintro e w30 ⟨rfl, hb⟩; replace BK773 := kb gb773 hb; replace BK774 := kp gb774 (.cells #[.int .i64 a0_0, .int .i64 a0_1, .int .i64 a0_2, .string a0_3, .string (⟨#[]⟩ : ByteArray), .int .i64 0, .int .i64 0] 156 (0, 0)) hb; replace HB := bst hb; (try clear hb)))
    go_ret
    exact ⟨qR, qB⟩
  ·rw [if_neg c4] at H
   have c4b0 : (a0_4.toList == ([] : List UInt8) && (a0_5 == 0 && (a0_6 == 0))) = false := by simpa using c4
   (try (have c4b1 : decide (a0_4.toList = ([] : List UInt8) && (a0_5 == 0 && (a0_6 == 0))) = false := by simpa using c4))
   (try (have c4b2 : (a0_4.toList == ([] : List UInt8) && (a0_5 == 0 && (a0_6 == 0))) = false := by simpa using c4))
   (try (have c4b3 : ¬ (a0_4.toList = ([] : List UInt8) && (a0_5 == 0 && (a0_6 == 0))) := by simpa using c4))
   have c4n := c4b0
   simp only [beq_self_eq_true, Bool.true_and, nil_toL, eq_nil_isEmpty] at c4n
   clear c4
   obtain rfl := Option.some.inj H
   go_enter Tryd.func93, Tryd.ntmps93
   go_upto_region 3 with (first | ((with_reducible refine gd 2 rfl ?_); refine bx 2 #[.int .i64 a0_0, .int .i64 a0_1, .int .i64 a0_2, .string a0_3, .string a0_4, .int .i64 a0_5, .int .i64 a0_6] 156 ?_; intro gb773 hg w38 hbox hb; have BK773 := Aside0.mk (hbox); have GW773 := geS hg; have GE773 := geS hg; replace HB := bst hb; clear hb hbox hg; obtain ⟨hcz39_0, hcz39_1, hcz39_2, hcz39_3, hcz39_4, hcz39_5, hcz39_6, hfz39_0, hfz39_1, hfz39_2, hfz39_3, hfz39_4, hfz39_5, hfz39_6⟩ := cells7 BK773.out) | ((with_reducible refine gd 5 rfl ?_); refine bx 5 #[.int .i64 0, .int .i64 0, .int .i64 0, .string (⟨#[]⟩ : ByteArray), .string (⟨#[]⟩ : ByteArray), .int .i64 0, .int .i64 0] 156 ?_; intro gb774 hg w40 hbox hb; have BK774 := Aside0.mk (hbox); have GW774 := geS hg; have GE774 := geS hg; have NB773_774 := neS gb773 hg; have NB774_773 := neT gb773 hg; replace BK773 := kb gb773 hb; replace HB := bst hb; clear hb hbox hg; have hnb41 := NB774_773.out; have hnc41 := NB773_774.out; obtain ⟨hcz42_0, hcz42_1, hcz42_2, hcz42_3, hcz42_4, hcz42_5, hcz42_6, hfz42_0, hfz42_1, hfz42_2, hfz42_3, hfz42_4, hfz42_5, hfz42_6⟩ := cells7 BK774.out; obtain ⟨hcz43_0, hcz43_1, hcz43_2, hcz43_3, hcz43_4, hcz43_5, hcz43_6, hfz43_0, hfz43_1, hfz43_2, hfz43_3, hfz43_4, hfz43_5, hfz43_6⟩ := cells7 BK773.out))
   (try simp only [Act.put, List.setIfInBounds_toArray, List.set_cons_zero, List.set_cons_succ])
   refine tell2 w gb773 gb774 (.cells #[.int .i64 a0_0, .int .i64 a0_1, .int .i64 a0_2, .string a0_3, .string a0_4, .int .i64 a0_5, .int .i64 a0_6] 156 (0, 0)) (.cells #[.int .i64 a0_0, .int .i64 0, .int .i64 0, .string (⟨#[]⟩ : ByteArray), .string (⟨#[]⟩ : ByteArray), .int .i64 0, .int .i64 0] 156 (0, 0)) qK (blk_is (blk_pl (blk_pl (blk_pl (blk_pl (blk_pl (blk_pl (blk_pl BK774.out))))))) rfl) qB ?_
   intro W1 q1 q2 q3
   clear BK773 BK774 HB
   have BK773 := Aside0.mk q1
   have BK774 := Aside0.mk q2
   have HB := Aside0.mk q3
   clear q1 q2 q3
   have hnb := NB774_773.out
   have hnc := NB773_774.out
   obtain ⟨hA0, hA1, hA2, hA3, hA4, hA5, hA6, hB0, hB1, hB2, hB3, hB4, hB5, hB6⟩ := cells7 BK773.out
   obtain ⟨hC0, hC1, hC2, hC3, hC4, hC5, hC6, hD0, hD1, hD2, hD3, hD4, hD5, hD6⟩ := cells7 BK774.out
   go_upto_region 5 with fail
   (try simp only [Act.put, List.setIfInBounds_toArray, List.set_cons_zero, List.set_cons_succ])
   refine tell2 w gb773 gb774 (.cells #[.int .i64 a0_0, .int .i64 a0_1, .int .i64 a0_2, .string a0_3, .string a0_4, .int .i64 a0_5, .int .i64 a0_6] 156 (0, 0)) (.cells #[.int .i64 a0_0, .int .i64 a0_1, .int .i64 a0_2, .string a0_3, .string (⟨#[]⟩ : ByteArray), .int .i64 0, .int .i64 0] 156 (0, 0)) qK (blk_is (blk_pl (blk_pl (blk_pl BK774.out))) rfl) qB ?_
   intro W1 q1 q2 q3
   clear BK773 BK774 HB
   have BK773 := Aside0.mk q1
   have BK774 := Aside0.mk q2
   have HB := Aside0.mk q3
   clear q1 q2 q3
   clear hA0 hA1 hA2 hA3 hA4 hA5 hA6 hB0 hB1 hB2 hB3 hB4 hB5 hB6 hC0 hC1 hC2 hC3 hC4 hC5 hC6 hD0 hD1 hD2 hD3 hD4 hD5 hD6
   obtain ⟨hA0, hA1, hA2, hA3, hA4, hA5, hA6, hB0, hB1, hB2, hB3, hB4, hB5, hB6⟩ := cells7 BK773.out
   obtain ⟨hC0, hC1, hC2, hC3, hC4, hC5, hC6, hD0, hD1, hD2, hD3, hD4, hD5, hD6⟩ := cells7 BK774.out
   go_wp2
   go_ret
   exact ⟨qR, qB⟩
 ·rw [if_neg c3] at H
  have c3b0 := beq_eq_false_iff_ne.mpr c3
  have c3b1 := bne_iff_ne.mpr c3
  have HC37 := Aside0.mk H
  clear H
  go_enter Tryd.func93, Tryd.ntmps93
  go_upto_region 3 with (first | ((with_reducible refine gd 2 rfl ?_); refine bx 2 #[.int .i64 a0_0, .int .i64 a0_1, .int .i64 a0_2, .string a0_3, .string a0_4, .int .i64 a0_5, .int .i64 a0_6] 156 ?_; intro gb773 hg w38 hbox hb; have BK773 := Aside0.mk (hbox); have GW773 := geS hg; have GE773 := geS hg; replace HB := bst hb; clear hb hbox hg; obtain ⟨hcz39_0, hcz39_1, hcz39_2, hcz39_3, hcz39_4, hcz39_5, hcz39_6, hfz39_0, hfz39_1, hfz39_2, hfz39_3, hfz39_4, hfz39_5, hfz39_6⟩ := cells7 BK773.out) | ((with_reducible refine gd 5 rfl ?_); refine bx 5 #[.int .i64 0, .int .i64 0, .int .i64 0, .string (⟨#[]⟩ : ByteArray), .string (⟨#[]⟩ : ByteArray), .int .i64 0, .int .i64 0] 156 ?_; intro gb774 hg w40 hbox hb; have BK774 := Aside0.mk (hbox); have GW774 := geS hg; have GE774 := geS hg; have NB773_774 := neS gb773 hg; have NB774_773 := neT gb773 hg; replace BK773 := kb gb773 hb; replace HB := bst hb; clear hb hbox hg; have hnb41 := NB774_773.out; have hnc41 := NB773_774.out; obtain ⟨hcz42_0, hcz42_1, hcz42_2, hcz42_3, hcz42_4, hcz42_5, hcz42_6, hfz42_0, hfz42_1, hfz42_2, hfz42_3, hfz42_4, hfz42_5, hfz42_6⟩ := cells7 BK774.out; obtain ⟨hcz43_0, hcz43_1, hcz43_2, hcz43_3, hcz43_4, hcz43_5, hcz43_6, hfz43_0, hfz43_1, hfz43_2, hfz43_3, hfz43_4, hfz43_5, hfz43_6⟩ := cells7 BK773.out))
  (try simp only [Act.put, List.setIfInBounds_toArray, List.set_cons_zero, List.set_cons_succ])
  refine tell2 w gb773 gb774 (.cells #[.int .i64 a0_0, .int .i64 a0_1, .int .i64 a0_2, .string a0_3, .string a0_4, .int .i64 a0_5, .int .i64 a0_6] 156 (0, 0)) (.cells #[.int .i64 a0_0, .int .i64 0, .int .i64 0, .string (⟨#[]⟩ : ByteArray), .string (⟨#[]⟩ : ByteArray), .int .i64 0, .int .i64 0] 156 (0, 0)) qK (blk_is (blk_pl (blk_pl (blk_pl (blk_pl (blk_pl (blk_pl (blk_pl BK774.out))))))) rfl) qB ?_
  intro W1 q1 q2 q3
  clear BK773 BK774 HB
  have BK773 := Aside0.mk q1
  have BK774 := Aside0.mk q2
  have HB := Aside0.mk q3
  clear q1 q2 q3
  have hnb := NB774_773.out
  have hnc := NB773_774.out
  obtain ⟨hA0, hA1, hA2, hA3, hA4, hA5, hA6, hB0, hB1, hB2, hB3, hB4, hB5, hB6⟩ := cells7 BK773.out
  obtain ⟨hC0, hC1, hC2, hC3, hC4, hC5, hC6, hD0, hD1, hD2, hD3, hD4, hD5, hD6⟩ := cells7 BK774.out
  go_upto_region 6 with fail
  (try simp only [Act.put, List.setIfInBounds_toArray, List.set_cons_zero, List.set_cons_succ])
  go_cut [36] (fun v36 wc => ∃ (kq : Nat) (x36_36 : Bool), v36 = .bool x36_36 ∧ Aside0 (expr_Node_right.j0 kq a1 x36_36 a0_0 a0_1 a0_2 a0_3 a0_4 a0_5 a0_6 a0_0 0 0 (⟨#[]⟩ : ByteArray) (⟨#[]⟩ : ByteArray) 0 0 = some r) ∧ Aside0 (kq ≤ k) ∧ Aside0 (wc.heap[gb773]? = some (.cells #[.int .i64 a0_0, .int .i64 a0_1, .int .i64 a0_2, .string a0_3, .string a0_4, .int .i64 a0_5, .int .i64 a0_6] 156 (0, 0))) ∧ Aside0 (wc.heap[gb774]? = some (.cells #[.int .i64 a0_0, .int .i64 0, .int .i64 0, .string (⟨#[]⟩ : ByteArray), .string (⟨#[]⟩ : ByteArray), .int .i64 0, .int .i64 0] 156 (0, 0))) ∧ Aside0 (Below w.heap.size w wc))
  case first =>
   have H := HC37.out
   clear HC37
   by_cases c44 : a0_0 = 16
   ·rw [if_pos c44] at H
    have c44b0 := beq_iff_eq.mpr c44
    have c44b1 := bne_eq_false_iff_eq.mpr c44
    clear c44
    (first | rw [c44b0] | (simp only [i64_w, i32_w]; rw [c44b0]) | skip)
    have H' := Aside0.mk H
    clear H
    have hnb45 := NB773_774.out
    have hnc45 := NB774_773.out
    obtain ⟨hcz46_0, hcz46_1, hcz46_2, hcz46_3, hcz46_4, hcz46_5, hcz46_6, hfz46_0, hfz46_1, hfz46_2, hfz46_3, hfz46_4, hfz46_5, hfz46_6⟩ := cells7 BK773.out
    go_wp2
    go_meet
    case rel => exact ⟨_, (true), (by first | rfl | (simp; done) | (simp [*]; done)), H', ⟨by first | omega | exact Nat.le_refl _⟩, ⟨qK⟩, ⟨qP⟩, ⟨qB⟩⟩
   ·rw [if_neg c44] at H
    have c44b0 := beq_eq_false_iff_ne.mpr c44
    have c44b1 := bne_iff_ne.mpr c44
    (first | rw [c44b0] | (simp only [i64_w, i32_w]; rw [c44b0]) | skip)
    have H' := Aside0.mk H
    clear H
    have hnb47 := NB773_774.out
    have hnc47 := NB774_773.out
    obtain ⟨hcz48_0, hcz48_1, hcz48_2, hcz48_3, hcz48_4, hcz48_5, hcz48_6, hfz48_0, hfz48_1, hfz48_2, hfz48_3, hfz48_4, hfz48_5, hfz48_6⟩ := cells7 BK773.out
    go_wp2
    go_meet
    case rel => exact ⟨_, ((a0_0 == 17)), (by first | rfl | (simp; done) | (simp [*]; done)), H', ⟨by first | omega | exact Nat.le_refl _⟩, ⟨qK⟩, ⟨qP⟩, ⟨qB⟩⟩
  case rest =>
   clear HC37
   try clear c1
   try clear c2
   try clear p2
   try clear c3
   try clear c3b0
   try clear c3b1
   try clear c4
   try clear c4b0
   try clear c4b1
   try clear c4b2
   try clear c6
   try clear c7
   try clear c7b0
   try clear c7b1
   try clear c9
   try clear c11
   try clear c19
   try clear c27
   try clear c34
   try clear c41
   try clear c44
   try clear c44b0
   try clear c44b1
   try clear c45
   try clear c47
   try clear hcz12_0 hcz12_1 hcz12_2 hcz12_3 hcz12_4 hcz12_5 hcz12_6 hfz12_0 hfz12_1 hfz12_2 hfz12_3 hfz12_4 hfz12_5 hfz12_6
   try clear hcz13_0 hcz13_1 hcz13_2 hcz13_3 hcz13_4 hcz13_5 hcz13_6 hfz13_0 hfz13_1 hfz13_2 hfz13_3 hfz13_4 hfz13_5 hfz13_6
   try clear hcz15_0 hcz15_1 hcz15_2 hcz15_3 hcz15_4 hcz15_5 hcz15_6 hfz15_0 hfz15_1 hfz15_2 hfz15_3 hfz15_4 hfz15_5 hfz15_6
   try clear hcz17_0 hcz17_1 hcz17_2 hcz17_3 hcz17_4 hcz17_5 hcz17_6 hfz17_0 hfz17_1 hfz17_2 hfz17_3 hfz17_4 hfz17_5 hfz17_6
   try clear hcz20_0 hcz20_1 hcz20_2 hcz20_3 hcz20_4 hcz20_5 hcz20_6 hfz20_0 hfz20_1 hfz20_2 hfz20_3 hfz20_4 hfz20_5 hfz20_6
   try clear hcz21_0 hcz21_1 hcz21_2 hcz21_3 hcz21_4 hcz21_5 hcz21_6 hfz21_0 hfz21_1 hfz21_2 hfz21_3 hfz21_4 hfz21_5 hfz21_6
   try clear hcz23_0 hcz23_1 hcz23_2 hcz23_3 hcz23_4 hcz23_5 hcz23_6 hfz23_0 hfz23_1 hfz23_2 hfz23_3 hfz23_4 hfz23_5 hfz23_6
   try clear hcz25_0 hcz25_1 hcz25_2 hcz25_3 hcz25_4 hcz25_5 hcz25_6 hfz25_0 hfz25_1 hfz25_2 hfz25_3 hfz25_4 hfz25_5 hfz25_6
   try clear hcz28_0 hcz28_1 hcz28_2 hcz28_3 hcz28_4 hcz28_5 hcz28_6 hfz28_0 hfz28_1 hfz28_2 hfz28_3 hfz28_4 hfz28_5 hfz28_6
   try clear hcz29_0 hcz29_1 hcz29_2 hcz29_3 hcz29_4 hcz29_5 hcz29_6 hfz29_0 hfz29_1 hfz29_2 hfz29_3 hfz29_4 hfz29_5 hfz29_6
   try clear hcz32_0 hcz32_1 hcz32_2 hcz32_3 hcz32_4 hcz32_5 hcz32_6 hfz32_0 hfz32_1 hfz32_2 hfz32_3 hfz32_4 hfz32_5 hfz32_6
   try clear hcz35_0 hcz35_1 hcz35_2 hcz35_3 hcz35_4 hcz35_5 hcz35_6 hfz35_0 hfz35_1 hfz35_2 hfz35_3 hfz35_4 hfz35_5 hfz35_6
   try clear hcz36_0 hcz36_1 hcz36_2 hcz36_3 hcz36_4 hcz36_5 hcz36_6 hfz36_0 hfz36_1 hfz36_2 hfz36_3 hfz36_4 hfz36_5 hfz36_6
   try clear hcz39_0 hcz39_1 hcz39_2 hcz39_3 hcz39_4 hcz39_5 hcz39_6 hfz39_0 hfz39_1 hfz39_2 hfz39_3 hfz39_4 hfz39_5 hfz39_6
   try clear hcz42_0 hcz42_1 hcz42_2 hcz42_3 hcz42_4 hcz42_5 hcz42_6 hfz42_0 hfz42_1 hfz42_2 hfz42_3 hfz42_4 hfz42_5 hfz42_6
   try clear hcz43_0 hcz43_1 hcz43_2 hcz43_3 hcz43_4 hcz43_5 hcz43_6 hfz43_0 hfz43_1 hfz43_2 hfz43_3 hfz43_4 hfz43_5 hfz43_6
   try clear hcz46_0 hcz46_1 hcz46_2 hcz46_3 hcz46_4 hcz46_5 hcz46_6 hfz46_0 hfz46_1 hfz46_2 hfz46_3 hfz46_4 hfz46_5 hfz46_6
   try clear hcz48_0 hcz48_1 hcz48_2 hcz48_3 hcz48_4 hcz48_5 hcz48_6 hfz48_0 hfz48_1 hfz48_2 hfz48_3 hfz48_4 hfz48_5 hfz48_6
   try clear hcz9_0 hcz9_1 hcz9_2 hcz9_3 hcz9_4 hcz9_5 hcz9_6 hfz9_0 hfz9_1 hfz9_2 hfz9_3 hfz9_4 hfz9_5 hfz9_6
   obtain ⟨kq, x36_36, rfl, HA, HJ36, BK773, BK774, HB⟩ := hcut
   cases kq with
   | zero => exact absurd HA.out (by simp [expr_Node_right.j0])
   | succ kj36 =>
    have H := HA.out
    clear HA
    simp only [expr_Node_right.j0] at H
    by_cases c49 : x36_36 = true
    ·subst c49
     rw [if_pos rfl] at H
     by_cases c50 : (a0_0 == a0_0 && ((a0_1 == 0 && (a0_2 == 0 && (a0_3.toList == (⟨#[]⟩ : ByteArray).toList))) && (a0_5 == 0 && (a0_6 == 0)))) = true
     ·rw [if_pos c50] at H
      have c50b0 : (a0_0 == a0_0 && ((a0_1 == 0 && (a0_2 == 0 && (a0_3.toList == (⟨#[]⟩ : ByteArray).toList))) && (a0_5 == 0 && (a0_6 == 0)))) = true := c50
      (try (have c50b1 : decide (a0_0 = a0_0 && ((a0_1 == 0 && (a0_2 == 0 && (a0_3.toList == (⟨#[]⟩ : ByteArray).toList))) && (a0_5 == 0 && (a0_6 == 0)))) = true := by simpa using c50))
      (try (have c50b2 : (a0_0 == a0_0 && ((a0_1 == 0 && (a0_2 == 0 && (a0_3.toList == (⟨#[]⟩ : ByteArray).toList))) && (a0_5 == 0 && (a0_6 == 0)))) = true := by simpa using c50))
      have c50n := c50b0
      simp only [beq_self_eq_true, Bool.true_and, nil_toL, eq_nil_isEmpty] at c50n
      clear c50
      replace H := Option.bind_eq_some_iff.mp H
      obtain ⟨t776, A510, H⟩ := H
      (try dsimp -simprocs only at H)
      have A51 := Aside0.mk A510
      clear A510
      obtain rfl := Option.some.inj H
      have hnb52 := NB773_774.out
      have hnc52 := NB774_773.out
      obtain ⟨hcz53_0, hcz53_1, hcz53_2, hcz53_3, hcz53_4, hcz53_5, hcz53_6, hfz53_0, hfz53_1, hfz53_2, hfz53_3, hfz53_4, hfz53_5, hfz53_6⟩ := cells7 BK773.out
      obtain ⟨hcz54_0, hcz54_1, hcz54_2, hcz54_3, hcz54_4, hcz54_5, hcz54_6, hfz54_0, hfz54_1, hfz54_2, hfz54_3, hfz54_4, hfz54_5, hfz54_6⟩ := cells7 BK774.out
      go_wp2_with (first | (go_at_call 26; (with_reducible refine (tok_Name.calls kj36 a0_4 t776 _ ?side1 A51.out).mono ?_); (case side1 => exact Laid.below HLD.out qB); rintro e w55 ⟨rfl, hb⟩; replace BK773 := kb gb773 hb; replace BK774 := kp gb774 (.cells #[.int .i64 a0_0, .int .i64 0, .int .i64 0, .string (⟨#[]⟩ : ByteArray), .string a0_4, .int .i64 0, .int .i64 0] 156 (0, 0)) hb; replace HB := bst hb; (try clear hb)))
      go_ret
      exact ⟨qR, qB⟩
     ·rw [if_neg c50] at H
      have c50b0 : (a0_0 == a0_0 && ((a0_1 == 0 && (a0_2 == 0 && (a0_3.toList == (⟨#[]⟩ : ByteArray).toList))) && (a0_5 == 0 && (a0_6 == 0)))) = false := by simpa using c50
      (try (have c50b1 : decide (a0_0 = a0_0 && ((a0_1 == 0 && (a0_2 == 0 && (a0_3.toList == (⟨#[]⟩ : ByteArray).toList))) && (a0_5 == 0 && (a0_6 == 0)))) = false := by simpa using c50))
      (try (have c50b2 : (a0_0 == a0_0 && ((a0_1 == 0 && (a0_2 == 0 && (a0_3.toList == (⟨#[]⟩ : ByteArray).toList))) && (a0_5 == 0 && (a0_6 == 0)))) = false := by simpa using c50))
      (try (have c50b3 : ¬ (a0_0 = a0_0 && ((a0_1 == 0 && (a0_2 == 0 && (a0_3.toList == (⟨#[]⟩ : ByteArray).toList))) && (a0_5 == 0 && (a0_6 == 0)))) := by simpa using c50))
      have c50n := c50b0
      simp only [beq_self_eq_true, Bool.true_and, nil_toL, eq_nil_isEmpty] at c50n
      clear c50
      obtain rfl := Option.some.inj H
      have hnb56 := NB773_774.out
      have hnc56 := NB774_773.out
      obtain ⟨hcz57_0, hcz57_1, hcz57_2, hcz57_3, hcz57_4, hcz57_5, hcz57_6, hfz57_0, hfz57_1, hfz57_2, hfz57_3, hfz57_4, hfz57_5, hfz57_6⟩ := cells7 BK773.out
      obtain ⟨hcz58_0, hcz58_1, hcz58_2, hcz58_3, hcz58_4, hcz58_5, hcz58_6, hfz58_0, hfz58_1, hfz58_2, hfz58_3, hfz58_4, hfz58_5, hfz58_6⟩ := cells7 BK774.out
      go_wp2
      go_ret
      exact ⟨qR, qB⟩
    ·replace c49 := Bool.eq_false_iff.mpr c49
     subst c49
     rw [if_neg (show ¬ (false = true) by decide)] at H
     replace H := Option.bind_eq_some_iff.mp H
     obtain ⟨t777, A590, H⟩ := H
     (try dsimp -simprocs only at H)
     have A59 := Aside0.mk A590
     clear A590
     by_cases c60 : t777 = true
     ·subst c60
      rw [if_pos rfl] at H
      by_cases c61 : (a0_0 == a0_0 && ((a0_1 == 0 && (a0_2 == 0 && (a0_3.toList == (⟨#[]⟩ : ByteArray).toList))) && (a0_4.toList == (⟨#[]⟩ : ByteArray).toList && (a0_5 == (wrap64 (a1 - 1)) && (a0_6 == 0))))) = true
      ·rw [if_pos c61] at H
       have c61b0 : (a0_0 == a0_0 && ((a0_1 == 0 && (a0_2 == 0 && (a0_3.toList == (⟨#[]⟩ : ByteArray).toList))) && (a0_4.toList == (⟨#[]⟩ : ByteArray).toList && (a0_5 == (wrap64 (a1 - 1)) && (a0_6 == 0))))) = true := c61
       (try (have c61b1 : decide (a0_0 = a0_0 && ((a0_1 == 0 && (a0_2 == 0 && (a0_3.toList == (⟨#[]⟩ : ByteArray).toList))) && (a0_4.toList == (⟨#[]⟩ : ByteArray).toList && (a0_5 == (wrap64 (a1 - 1)) && (a0_6 == 0))))) = true := by simpa using c61))
       (try (have c61b2 : (a0_0 == a0_0 && ((a0_1 == 0 && (a0_2 == 0 && (a0_3.toList == (⟨#[]⟩ : ByteArray).toList))) && (a0_4.toList == (⟨#[]⟩ : ByteArray).toList && (a0_5 == (wrap64 (a1 - 1)) && (a0_6 == 0))))) = true := by simpa using c61))
       have c61n := c61b0
       simp only [beq_self_eq_true, Bool.true_and, nil_toL, eq_nil_isEmpty] at c61n
       clear c61
       replace H := iD H
       rcases H with ⟨c62b0, H⟩ | ⟨c62b0, H⟩
       ·obtain rfl := Option.some.inj H
        have hnb63 := NB773_774.out
        have hnc63 := NB774_773.out
        obtain ⟨hcz64_0, hcz64_1, hcz64_2, hcz64_3, hcz64_4, hcz64_5, hcz64_6, hfz64_0, hfz64_1, hfz64_2, hfz64_3, hfz64_4, hfz64_5, hfz64_6⟩ := cells7 BK773.out
        go_wp2_with (first | ((with_reducible refine gc 119 rfl ?_); refine gl (some 59) #[.int .i64 a0_0] Tryd.func119 ?_; (with_reducible refine (expr_one.calls a0_0 true _ A59.out).mono ?_); rintro e w' ⟨rfl, ⟨nd, rfl⟩⟩; refine ⟨_, rfl, ?_⟩; (try (rw [drewN_self wc]; generalize hq_ : World.drewN wc _ = wc; have n0_ : Aside0 (wc.heap[gb773]? = some (.cells #[.int .i64 a0_0, .int .i64 a0_1, .int .i64 a0_2, .string a0_3, .string a0_4, .int .i64 a0_5, .int .i64 a0_6] 156 (0, 0))) := ⟨by rw [← hq_]; exact qK⟩; have n1_ : Aside0 (wc.heap[gb774]? = some (.cells #[.int .i64 a0_0, .int .i64 0, .int .i64 0, .string (⟨#[]⟩ : ByteArray), .string (⟨#[]⟩ : ByteArray), .int .i64 0, .int .i64 0] 156 (0, 0))) := ⟨by rw [← hq_]; exact qK⟩; have n2_ : Aside0 (Below w.heap.size w wc) := ⟨by rw [← hq_]; exact qB⟩; clear BK773 BK774 HB hq_; have BK773 := n0_; have BK774 := n1_; have HB := n2_; clear n0_ n1_ n2_)); (try (obtain ⟨hE0, hE1, hE2, hE3, hE4, hE5, hE6, hF0, hF1, hF2, hF3, hF4, hF5, hF6⟩ := cells7 BK773.out; obtain ⟨hG0, hG1, hG2, hG3, hG4, hG5, hG6, hH0, hH1, hH2, hH3, hH4, hH5, hH6⟩ := cells7 BK774.out))))
        go_ret
        exact ⟨qR, qB⟩
       ·obtain rfl := Option.some.inj H
        have hnb66 := NB773_774.out
        have hnc66 := NB774_773.out
        obtain ⟨hcz67_0, hcz67_1, hcz67_2, hcz67_3, hcz67_4, hcz67_5, hcz67_6, hfz67_0, hfz67_1, hfz67_2, hfz67_3, hfz67_4, hfz67_5, hfz67_6⟩ := cells7 BK773.out
        go_wp2_with (first | ((with_reducible refine gc 119 rfl ?_); refine gl (some 59) #[.int .i64 a0_0] Tryd.func119 ?_; (with_reducible refine (expr_one.calls a0_0 true _ A59.out).mono ?_); rintro e w' ⟨rfl, ⟨nd, rfl⟩⟩; refine ⟨_, rfl, ?_⟩; (try (rw [drewN_self wc]; generalize hq_ : World.drewN wc _ = wc; have n0_ : Aside0 (wc.heap[gb773]? = some (.cells #[.int .i64 a0_0, .int .i64 a0_1, .int .i64 a0_2, .string a0_3, .string a0_4, .int .i64 a0_5, .int .i64 a0_6] 156 (0, 0))) := ⟨by rw [← hq_]; exact qK⟩; have n1_ : Aside0 (wc.heap[gb774]? = some (.cells #[.int .i64 a0_0, .int .i64 0, .int .i64 0, .string (⟨#[]⟩ : ByteArray), .string (⟨#[]⟩ : ByteArray), .int .i64 0, .int .i64 0] 156 (0, 0))) := ⟨by rw [← hq_]; exact qK⟩; have n2_ : Aside0 (Below w.heap.size w wc) := ⟨by rw [← hq_]; exact qB⟩; clear BK773 BK774 HB hq_; have BK773 := n0_; have BK774 := n1_; have HB := n2_; clear n0_ n1_ n2_)); (try (obtain ⟨hE0, hE1, hE2, hE3, hE4, hE5, hE6, hF0, hF1, hF2, hF3, hF4, hF5, hF6⟩ := cells7 BK773.out; obtain ⟨hG0, hG1, hG2, hG3, hG4, hG5, hG6, hH0, hH1, hH2, hH3, hH4, hH5, hH6⟩ := cells7 BK774.out))))
        go_ret
        exact ⟨qR, qB⟩
      ·rw [if_neg c61] at H
       have c61b0 : (a0_0 == a0_0 && ((a0_1 == 0 && (a0_2 == 0 && (a0_3.toList == (⟨#[]⟩ : ByteArray).toList))) && (a0_4.toList == (⟨#[]⟩ : ByteArray).toList && (a0_5 == (wrap64 (a1 - 1)) && (a0_6 == 0))))) = false := by simpa using c61
       (try (have c61b1 : decide (a0_0 = a0_0 && ((a0_1 == 0 && (a0_2 == 0 && (a0_3.toList == (⟨#[]⟩ : ByteArray).toList))) && (a0_4.toList == (⟨#[]⟩ : ByteArray).toList && (a0_5 == (wrap64 (a1 - 1)) && (a0_6 == 0))))) = false := by simpa using c61))
       (try (have c61b2 : (a0_0 == a0_0 && ((a0_1 == 0 && (a0_2 == 0 && (a0_3.toList == (⟨#[]⟩ : ByteArray).toList))) && (a0_4.toList == (⟨#[]⟩ : ByteArray).toList && (a0_5 == (wrap64 (a1 - 1)) && (a0_6 == 0))))) = false := by simpa using c61))
       (try (have c61b3 : ¬ (a0_0 = a0_0 && ((a0_1 == 0 && (a0_2 == 0 && (a0_3.toList == (⟨#[]⟩ : ByteArray).toList))) && (a0_4.toList == (⟨#[]⟩ : ByteArray).toList && (a0_5 == (wrap64 (a1 - 1)) && (a0_6 == 0))))) := by simpa using c61))
       have c61n := c61b0
       simp only [beq_self_eq_true, Bool.true_and, nil_toL, eq_nil_isEmpty] at c61n
       clear c61
       obtain rfl := Option.some.inj H
       have hnb69 := NB773_774.out
       have hnc69 := NB774_773.out
       obtain ⟨hcz70_0, hcz70_1, hcz70_2, hcz70_3, hcz70_4, hcz70_5, hcz70_6, hfz70_0, hfz70_1, hfz70_2, hfz70_3, hfz70_4, hfz70_5, hfz70_6⟩ := cells7 BK773.out
       go_wp2_with (first | ((with_reducible refine gc 119 rfl ?_); refine gl (some 59) #[.int .i64 a0_0] Tryd.func119 ?_; (with_reducible refine (expr_one.calls a0_0 true _ A59.out).mono ?_); rintro e w' ⟨rfl, ⟨nd, rfl⟩⟩; refine ⟨_, rfl, ?_⟩; (try (rw [drewN_self wc]; generalize hq_ : World.drewN wc _ = wc; have n0_ : Aside0 (wc.heap[gb773]? = some (.cells #[.int .i64 a0_0, .int .i64 a0_1, .int .i64 a0_2, .string a0_3, .string a0_4, .int .i64 a0_5, .int .i64 a0_6] 156 (0, 0))) := ⟨by rw [← hq_]; exact qK⟩; have n1_ : Aside0 (wc.heap[gb774]? = some (.cells #[.int .i64 a0_0, .int .i64 0, .int .i64 0, .string (⟨#[]⟩ : ByteArray), .string (⟨#[]⟩ : ByteArray), .int .i64 0, .int .i64 0] 156 (0, 0))) := ⟨by rw [← hq_]; exact qK⟩; have n2_ : Aside0 (Below w.heap.size w wc) := ⟨by rw [← hq_]; exact qB⟩; clear BK773 BK774 HB hq_; have BK773 := n0_; have BK774 := n1_; have HB := n2_; clear n0_ n1_ n2_)); (try (obtain ⟨hE0, hE1, hE2, hE3, hE4, hE5, hE6, hF0, hF1, hF2, hF3, hF4, hF5, hF6⟩ := cells7 BK773.out; obtain ⟨hG0, hG1, hG2, hG3, hG4, hG5, hG6, hH0, hH1, hH2, hH3, hH4, hH5, hH6⟩ := cells7 BK774.out))))
       go_ret
       exact ⟨qR, qB⟩
     ·replace c60 := Bool.eq_false_iff.mpr c60
      subst c60
      rw [if_neg (show ¬ (false = true) by decide)] at H
      replace H := Option.bind_eq_some_iff.mp H
      obtain ⟨t778, A720, H⟩ := H
      (try dsimp -simprocs only at H)
      have A72 := Aside0.mk A720
      clear A720
      by_cases c73 : t778 = true
      ·subst c73
       rw [if_pos rfl] at H
       by_cases c74 : (a0_0 == a0_0 && ((a0_1 == 0 && (a0_2 == 0 && (a0_3.toList == (⟨#[]⟩ : ByteArray).toList))) && (a0_4.toList == (⟨#[]⟩ : ByteArray).toList && (a0_6 == (wrap64 (a1 - 1)))))) = true
       ·rw [if_pos c74] at H
        have c74b0 : (a0_0 == a0_0 && ((a0_1 == 0 && (a0_2 == 0 && (a0_3.toList == (⟨#[]⟩ : ByteArray).toList))) && (a0_4.toList == (⟨#[]⟩ : ByteArray).toList && (a0_6 == (wrap64 (a1 - 1)))))) = true := c74
        (try (have c74b1 : decide (a0_0 = a0_0 && ((a0_1 == 0 && (a0_2 == 0 && (a0_3.toList == (⟨#[]⟩ : ByteArray).toList))) && (a0_4.toList == (⟨#[]⟩ : ByteArray).toList && (a0_6 == (wrap64 (a1 - 1)))))) = true := by simpa using c74))
        (try (have c74b2 : (a0_0 == a0_0 && ((a0_1 == 0 && (a0_2 == 0 && (a0_3.toList == (⟨#[]⟩ : ByteArray).toList))) && (a0_4.toList == (⟨#[]⟩ : ByteArray).toList && (a0_6 == (wrap64 (a1 - 1)))))) = true := by simpa using c74))
        have c74n := c74b0
        simp only [beq_self_eq_true, Bool.true_and, nil_toL, eq_nil_isEmpty] at c74n
        clear c74
        replace H := iD H
        rcases H with ⟨c75b0, H⟩ | ⟨c75b0, H⟩
        ·obtain rfl := Option.some.inj H
         have hnb76 := NB773_774.out
         have hnc76 := NB774_773.out
         obtain ⟨hcz77_0, hcz77_1, hcz77_2, hcz77_3, hcz77_4, hcz77_5, hcz77_6, hfz77_0, hfz77_1, hfz77_2, hfz77_3, hfz77_4, hfz77_5, hfz77_6⟩ := cells7 BK773.out
         go_wp2_with (first | ((with_reducible refine gc 119 rfl ?_); refine gl (some 59) #[.int .i64 a0_0] Tryd.func119 ?_; (with_reducible refine (expr_one.calls a0_0 false _ A59.out).mono ?_); rintro e w' ⟨rfl, ⟨nd, rfl⟩⟩; refine ⟨_, rfl, ?_⟩; (try (rw [drewN_self wc]; generalize hq_ : World.drewN wc _ = wc; have n0_ : Aside0 (wc.heap[gb773]? = some (.cells #[.int .i64 a0_0, .int .i64 a0_1, .int .i64 a0_2, .string a0_3, .string a0_4, .int .i64 a0_5, .int .i64 a0_6] 156 (0, 0))) := ⟨by rw [← hq_]; exact qK⟩; have n1_ : Aside0 (wc.heap[gb774]? = some (.cells #[.int .i64 a0_0, .int .i64 0, .int .i64 0, .string (⟨#[]⟩ : ByteArray), .string (⟨#[]⟩ : ByteArray), .int .i64 0, .int .i64 0] 156 (0, 0))) := ⟨by rw [← hq_]; exact qK⟩; have n2_ : Aside0 (Below w.heap.size w wc) := ⟨by rw [← hq_]; exact qB⟩; clear BK773 BK774 HB hq_; have BK773 := n0_; have BK774 := n1_; have HB := n2_; clear n0_ n1_ n2_)); (try (obtain ⟨hE0, hE1, hE2, hE3, hE4, hE5, hE6, hF0, hF1, hF2, hF3, hF4, hF5, hF6⟩ := cells7 BK773.out; obtain ⟨hG0, hG1, hG2, hG3, hG4, hG5, hG6, hH0, hH1, hH2, hH3, hH4, hH5, hH6⟩ := cells7 BK774.out))) | ((with_reducible refine gc 120 rfl ?_); refine gl (some 66) #[.int .i64 a0_0] Tryd.func120 ?_; (with_reducible refine (expr_two.calls a0_0 true _ A72.out).mono ?_); rintro e w' ⟨rfl, ⟨nd, rfl⟩⟩; refine ⟨_, rfl, ?_⟩; (try (rw [drewN_self wc]; generalize hq_ : World.drewN wc _ = wc; have n0_ : Aside0 (wc.heap[gb773]? = some (.cells #[.int .i64 a0_0, .int .i64 a0_1, .int .i64 a0_2, .string a0_3, .string a0_4, .int .i64 a0_5, .int .i64 a0_6] 156 (0, 0))) := ⟨by rw [← hq_]; exact qK⟩; have n1_ : Aside0 (wc.heap[gb774]? = some (.cells #[.int .i64 a0_0, .int .i64 0, .int .i64 0, .string (⟨#[]⟩ : ByteArray), .string (⟨#[]⟩ : ByteArray), .int .i64 0, .int .i64 0] 156 (0, 0))) := ⟨by rw [← hq_]; exact qK⟩; have n2_ : Aside0 (Below w.heap.size w wc) := ⟨by rw [← hq_]; exact qB⟩; clear BK773 BK774 HB hq_; have BK773 := n0_; have BK774 := n1_; have HB := n2_; clear n0_ n1_ n2_)); (try (obtain ⟨hE0, hE1, hE2, hE3, hE4, hE5, hE6, hF0, hF1, hF2, hF3, hF4, hF5, hF6⟩ := cells7 BK773.out; obtain ⟨hG0, hG1, hG2, hG3, hG4, hG5, hG6, hH0, hH1, hH2, hH3, hH4, hH5, hH6⟩ := cells7 BK774.out))))
         go_ret
         exact ⟨qR, qB⟩
        ·obtain rfl := Option.some.inj H
         have hnb79 := NB773_774.out
         have hnc79 := NB774_773.out
         obtain ⟨hcz80_0, hcz80_1, hcz80_2, hcz80_3, hcz80_4, hcz80_5, hcz80_6, hfz80_0, hfz80_1, hfz80_2, hfz80_3, hfz80_4, hfz80_5, hfz80_6⟩ := cells7 BK773.out
         go_wp2_with (first | ((with_reducible refine gc 119 rfl ?_); refine gl (some 59) #[.int .i64 a0_0] Tryd.func119 ?_; (with_reducible refine (expr_one.calls a0_0 false _ A59.out).mono ?_); rintro e w' ⟨rfl, ⟨nd, rfl⟩⟩; refine ⟨_, rfl, ?_⟩; (try (rw [drewN_self wc]; generalize hq_ : World.drewN wc _ = wc; have n0_ : Aside0 (wc.heap[gb773]? = some (.cells #[.int .i64 a0_0, .int .i64 a0_1, .int .i64 a0_2, .string a0_3, .string a0_4, .int .i64 a0_5, .int .i64 a0_6] 156 (0, 0))) := ⟨by rw [← hq_]; exact qK⟩; have n1_ : Aside0 (wc.heap[gb774]? = some (.cells #[.int .i64 a0_0, .int .i64 0, .int .i64 0, .string (⟨#[]⟩ : ByteArray), .string (⟨#[]⟩ : ByteArray), .int .i64 0, .int .i64 0] 156 (0, 0))) := ⟨by rw [← hq_]; exact qK⟩; have n2_ : Aside0 (Below w.heap.size w wc) := ⟨by rw [← hq_]; exact qB⟩; clear BK773 BK774 HB hq_; have BK773 := n0_; have BK774 := n1_; have HB := n2_; clear n0_ n1_ n2_)); (try (obtain ⟨hE0, hE1, hE2, hE3, hE4, hE5, hE6, hF0, hF1, hF2, hF3, hF4, hF5, hF6⟩ := cells7 BK773.out; obtain ⟨hG0, hG1, hG2, hG3, hG4, hG5, hG6, hH0, hH1, hH2, hH3, hH4, hH5, hH6⟩ := cells7 BK774.out))) | ((with_reducible refine gc 120 rfl ?_); refine gl (some 66) #[.int .i64 a0_0] Tryd.func120 ?_; (with_reducible refine (expr_two.calls a0_0 true _ A72.out).mono ?_); rintro e w' ⟨rfl, ⟨nd, rfl⟩⟩; refine ⟨_, rfl, ?_⟩; (try (rw [drewN_self wc]; generalize hq_ : World.drewN wc _ = wc; have n0_ : Aside0 (wc.heap[gb773]? = some (.cells #[.int .i64 a0_0, .int .i64 a0_1, .int .i64 a0_2, .string a0_3, .string a0_4, .int .i64 a0_5, .int .i64 a0_6] 156 (0, 0))) := ⟨by rw [← hq_]; exact qK⟩; have n1_ : Aside0 (wc.heap[gb774]? = some (.cells #[.int .i64 a0_0, .int .i64 0, .int .i64 0, .string (⟨#[]⟩ : ByteArray), .string (⟨#[]⟩ : ByteArray), .int .i64 0, .int .i64 0] 156 (0, 0))) := ⟨by rw [← hq_]; exact qK⟩; have n2_ : Aside0 (Below w.heap.size w wc) := ⟨by rw [← hq_]; exact qB⟩; clear BK773 BK774 HB hq_; have BK773 := n0_; have BK774 := n1_; have HB := n2_; clear n0_ n1_ n2_)); (try (obtain ⟨hE0, hE1, hE2, hE3, hE4, hE5, hE6, hF0, hF1, hF2, hF3, hF4, hF5, hF6⟩ := cells7 BK773.out; obtain ⟨hG0, hG1, hG2, hG3, hG4, hG5, hG6, hH0, hH1, hH2, hH3, hH4, hH5, hH6⟩ := cells7 BK774.out))))
         go_ret
         exact ⟨qR, qB⟩
       ·rw [if_neg c74] at H
        have c74b0 : (a0_0 == a0_0 && ((a0_1 == 0 && (a0_2 == 0 && (a0_3.toList == (⟨#[]⟩ : ByteArray).toList))) && (a0_4.toList == (⟨#[]⟩ : ByteArray).toList && (a0_6 == (wrap64 (a1 - 1)))))) = false := by simpa using c74
        (try (have c74b1 : decide (a0_0 = a0_0 && ((a0_1 == 0 && (a0_2 == 0 && (a0_3.toList == (⟨#[]⟩ : ByteArray).toList))) && (a0_4.toList == (⟨#[]⟩ : ByteArray).toList && (a0_6 == (wrap64 (a1 - 1)))))) = false := by simpa using c74))
        (try (have c74b2 : (a0_0 == a0_0 && ((a0_1 == 0 && (a0_2 == 0 && (a0_3.toList == (⟨#[]⟩ : ByteArray).toList))) && (a0_4.toList == (⟨#[]⟩ : ByteArray).toList && (a0_6 == (wrap64 (a1 - 1)))))) = false := by simpa using c74))
        (try (have c74b3 : ¬ (a0_0 = a0_0 && ((a0_1 == 0 && (a0_2 == 0 && (a0_3.toList == (⟨#[]⟩ : ByteArray).toList))) && (a0_4.toList == (⟨#[]⟩ : ByteArray).toList && (a0_6 == (wrap64 (a1 - 1)))))) := by simpa using c74))
        have c74n := c74b0
        simp only [beq_self_eq_true, Bool.true_and, nil_toL, eq_nil_isEmpty] at c74n
        clear c74
        obtain rfl := Option.some.inj H
        have hnb82 := NB773_774.out
        have hnc82 := NB774_773.out
        obtain ⟨hcz83_0, hcz83_1, hcz83_2, hcz83_3, hcz83_4, hcz83_5, hcz83_6, hfz83_0, hfz83_1, hfz83_2, hfz83_3, hfz83_4, hfz83_5, hfz83_6⟩ := cells7 BK773.out
        go_wp2_with (first | ((with_reducible refine gc 119 rfl ?_); refine gl (some 59) #[.int .i64 a0_0] Tryd.func119 ?_; (with_reducible refine (expr_one.calls a0_0 false _ A59.out).mono ?_); rintro e w' ⟨rfl, ⟨nd, rfl⟩⟩; refine ⟨_, rfl, ?_⟩; (try (rw [drewN_self wc]; generalize hq_ : World.drewN wc _ = wc; have n0_ : Aside0 (wc.heap[gb773]? = some (.cells #[.int .i64 a0_0, .int .i64 a0_1, .int .i64 a0_2, .string a0_3, .string a0_4, .int .i64 a0_5, .int .i64 a0_6] 156 (0, 0))) := ⟨by rw [← hq_]; exact qK⟩; have n1_ : Aside0 (wc.heap[gb774]? = some (.cells #[.int .i64 a0_0, .int .i64 0, .int .i64 0, .string (⟨#[]⟩ : ByteArray), .string (⟨#[]⟩ : ByteArray), .int .i64 0, .int .i64 0] 156 (0, 0))) := ⟨by rw [← hq_]; exact qK⟩; have n2_ : Aside0 (Below w.heap.size w wc) := ⟨by rw [← hq_]; exact qB⟩; clear BK773 BK774 HB hq_; have BK773 := n0_; have BK774 := n1_; have HB := n2_; clear n0_ n1_ n2_)); (try (obtain ⟨hE0, hE1, hE2, hE3, hE4, hE5, hE6, hF0, hF1, hF2, hF3, hF4, hF5, hF6⟩ := cells7 BK773.out; obtain ⟨hG0, hG1, hG2, hG3, hG4, hG5, hG6, hH0, hH1, hH2, hH3, hH4, hH5, hH6⟩ := cells7 BK774.out))) | ((with_reducible refine gc 120 rfl ?_); refine gl (some 66) #[.int .i64 a0_0] Tryd.func120 ?_; (with_reducible refine (expr_two.calls a0_0 true _ A72.out).mono ?_); rintro e w' ⟨rfl, ⟨nd, rfl⟩⟩; refine ⟨_, rfl, ?_⟩; (try (rw [drewN_self wc]; generalize hq_ : World.drewN wc _ = wc; have n0_ : Aside0 (wc.heap[gb773]? = some (.cells #[.int .i64 a0_0, .int .i64 a0_1, .int .i64 a0_2, .string a0_3, .string a0_4, .int .i64 a0_5, .int .i64 a0_6] 156 (0, 0))) := ⟨by rw [← hq_]; exact qK⟩; have n1_ : Aside0 (wc.heap[gb774]? = some (.cells #[.int .i64 a0_0, .int .i64 0, .int .i64 0, .string (⟨#[]⟩ : ByteArray), .string (⟨#[]⟩ : ByteArray), .int .i64 0, .int .i64 0] 156 (0, 0))) := ⟨by rw [← hq_]; exact qK⟩; have n2_ : Aside0 (Below w.heap.size w wc) := ⟨by rw [← hq_]; exact qB⟩; clear BK773 BK774 HB hq_; have BK773 := n0_; have BK774 := n1_; have HB := n2_; clear n0_ n1_ n2_)); (try (obtain ⟨hE0, hE1, hE2, hE3, hE4, hE5, hE6, hF0, hF1, hF2, hF3, hF4, hF5, hF6⟩ := cells7 BK773.out; obtain ⟨hG0, hG1, hG2, hG3, hG4, hG5, hG6, hH0, hH1, hH2, hH3, hH4, hH5, hH6⟩ := cells7 BK774.out))))
        go_ret
        exact ⟨qR, qB⟩
      ·replace c73 := Bool.eq_false_iff.mpr c73
       subst c73
       rw [if_neg (show ¬ (false = true) by decide)] at H
       obtain rfl := Option.some.inj H
       have hnb85 := NB773_774.out
       have hnc85 := NB774_773.out
       obtain ⟨hcz86_0, hcz86_1, hcz86_2, hcz86_3, hcz86_4, hcz86_5, hcz86_6, hfz86_0, hfz86_1, hfz86_2, hfz86_3, hfz86_4, hfz86_5, hfz86_6⟩ := cells7 BK773.out
       go_wp2_with (first | ((with_reducible refine gc 119 rfl ?_); refine gl (some 59) #[.int .i64 a0_0] Tryd.func119 ?_; (with_reducible refine (expr_one.calls a0_0 false _ A59.out).mono ?_); rintro e w' ⟨rfl, ⟨nd, rfl⟩⟩; refine ⟨_, rfl, ?_⟩; (try (obtain ⟨hE0, hE1, hE2, hE3, hE4, hE5, hE6, hF0, hF1, hF2, hF3, hF4, hF5, hF6⟩ := cells7 BK773.out; obtain ⟨hG0, hG1, hG2, hG3, hG4, hG5, hG6, hH0, hH1, hH2, hH3, hH4, hH5, hH6⟩ := cells7 BK774.out))) | ((with_reducible refine gc 120 rfl ?_); refine gl (some 66) #[.int .i64 a0_0] Tryd.func120 ?_; (with_reducible refine (expr_two.calls a0_0 false _ A72.out).mono ?_); rintro e w' ⟨rfl, ⟨nd, rfl⟩⟩; refine ⟨_, rfl, ?_⟩; (try (obtain ⟨hE0, hE1, hE2, hE3, hE4, hE5, hE6, hF0, hF1, hF2, hF3, hF4, hF5, hF6⟩ := cells7 BK773.out; obtain ⟨hG0, hG1, hG2, hG3, hG4, hG5, hG6, hH0, hH1, hH2, hH3, hH4, hH5, hH6⟩ := cells7 BK774.out))))
       go_ret
       exact ⟨qR, qB⟩
end Go.Proofs.YtbngfhlciebeeaaDoor.L
