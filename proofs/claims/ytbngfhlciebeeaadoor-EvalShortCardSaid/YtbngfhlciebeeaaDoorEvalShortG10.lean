/- Printed and hand-written steps towards the row (EvalShort), those that it reaches. -/
import Derived.Test.YtbngfhlciebeeaaDoorEvalShortG3
import Derived.Test.YtbngfhlciebeeaaDoorEvalShortG4
import Derived.Test.YtbngfhlciebeeaaDoorEvalShortG5
import Derived.Test.YtbngfhlciebeeaaDoorEvalShortG9
import Derived.Test.YtbngfhlciebeeaaDoorEvalShortG8
section
namespace Go.Proofs.YtbngfhlciebeeaaDoor.L
set_option linter.unusedVariables false
open Go.RowKit Go.Proofs.YtbngfhlciebeeaaDoorW.PrintWords Go.Proofs.YtbngfhlciebeeaaDoorW.PrintLast Go.Proofs.YtbngfhlciebeeaaDoorW.PrintMore
theorem eq_nil_isEmpty (l : List UInt8) : (l == ([] : List UInt8)) = l.isEmpty := by cases l <;> rfl
end Go.Proofs.YtbngfhlciebeeaaDoor.L
end
section
namespace Go.Proofs.YtbngfhlciebeeaaDoor.L
open Go.RowKit Go.Proofs.YtbngfhlciebeeaaDoorW.PrintWords Go.Proofs.YtbngfhlciebeeaaDoorW.PrintLast Go.Proofs.YtbngfhlciebeeaaDoorW.PrintMore
attribute [local go_sem] max2_int min2_int max_two min_two max_three min_three max_four min_four   -- for this text's walks alone
set_option linter.unusedVariables false
set_option linter.unusedSimpArgs false
theorem eqA103 (d : Nat) (w : World) (x0 y0 : Int) (x1 y1 : Int) (x2 y2 : ByteArray) :
    (Op.equalIn (d + 2) 103 (.agg #[.int .i64 x0, .int .i64 x1, .string x2]) (.agg #[.int .i64 y0, .int .i64 y1, .string y2])).run Tryd.prog w = .ok (x0 == y0 && (x1 == y1 && (x2.toList == y2.toList))) w := by
  refine eqA_of Tryd.underlying103 (by kernel_rfl) ?_
  refine eqf_cons (by rfl) (by go_simp; rfl) (by go_simp; rfl) (by go_simp) ?_
  refine eqf_cons (by rfl) (by go_simp; rfl) (by go_simp; rfl) (by go_simp) ?_
  exact eqf_last (by rfl) (by go_simp; rfl) (by go_simp; rfl) (by go_simp)
theorem eqA156 (d : Nat) (w : World) (x0 y0 : Int) (x1 y1 : Int) (x2 y2 : Int) (x3 y3 : ByteArray) (x4 y4 : ByteArray) (x5 y5 : Int) (x6 y6 : Int) :
    (Op.equalIn (d + 3) 156 (.agg #[.int .i64 x0, .int .i64 x1, .int .i64 x2, .string x3, .string x4, .int .i64 x5, .int .i64 x6]) (.agg #[.int .i64 y0, .int .i64 y1, .int .i64 y2, .string y3, .string y4, .int .i64 y5, .int .i64 y6])).run Tryd.prog w = .ok (x0 == y0 && ((x1 == y1 && (x2 == y2 && (x3.toList == y3.toList))) && (x4.toList == y4.toList && (x5 == y5 && (x6 == y6))))) w := by
  refine eqA_of Tryd.underlying156 (by kernel_rfl) ?_
  refine eqf_cons (by rfl) (by go_simp; rfl) (by go_simp; rfl) (by go_simp) ?_
  refine eqf_cons (by rfl) (by go_simp) (by go_simp) (eqA103 (d + 0) w _ _ _ _ _ _) ?_
  refine eqf_cons (by rfl) (by go_simp; rfl) (by go_simp; rfl) (by go_simp) ?_
  refine eqf_cons (by rfl) (by go_simp; rfl) (by go_simp; rfl) (by go_simp) ?_
  exact eqf_last (by rfl) (by go_simp; rfl) (by go_simp; rfl) (by go_simp)
def val_Value_Right.f (a0_0 : Int) (a0_1 : Int) (a0_2 : ByteArray) : Option (Bool) := if a0_0 = 1 then (some (a0_2.toList == ([] : List UInt8))) else (if a0_0 = 2 then (if a0_2.toList = ([] : List UInt8) then (if a0_1 = 0 then (some true) else (some (a0_1 == 1))) else (some false)) else (if a0_0 = 3 then (if a0_1 = 0 then ((val_Plain.f a0_2).bind fun t772 => (some t772)) else (some false)) else (some false)))
set_option maxHeartbeats 8000000 in
set_option maxRecDepth 100000 in
theorem val_Value_Right.calls (a0_0 : Int) (a0_1 : Int) (a0_2 : ByteArray) (r : Bool) (w : World) (h : val_Value_Right.f a0_0 a0_1 a0_2 = some r) :
  Calls Tryd.prog 66 #[.agg #[.int .i64 a0_0, .int .i64 a0_1, .string a0_2]] w fun e w' => e = .returned (.bool r) ∧ Below w.heap.size w w' := by
 have hu103 := Tryd.underlying103
 have HB := Aside0.mk (Below.refl w.heap.size w)
 have H : (if a0_0 = 1 then (some (a0_2.toList == ([] : List UInt8))) else (if a0_0 = 2 then (if a0_2.toList = ([] : List UInt8) then (if a0_1 = 0 then (some true) else (some (a0_1 == 1))) else (some false)) else (if a0_0 = 3 then (if a0_1 = 0 then ((val_Plain.f a0_2).bind fun t772 => (some t772)) else (some false)) else (some false)))) = some r := h
 clear h
 by_cases c2 : a0_0 = 1
 ·rw [if_pos c2] at H
  have c2b0 := beq_iff_eq.mpr c2
  have c2b1 := bne_eq_false_iff_eq.mpr c2
  clear c2
  obtain rfl := Option.some.inj H
  go_enter Tryd.func66, Tryd.ntmps66
  go_wp2_with (first | ((with_reducible refine gd 1 rfl ?_); refine bxx 1 #[.int .i64 a0_0, .int .i64 a0_1, .string a0_2] 103 ?_; intro gb771 w3 BK771 GW771 HB; obtain ⟨_, _, _, _, _, _⟩ := cells3 BK771.out))
  go_ret
  exact ⟨qR, qB⟩
 rw [if_neg c2] at H
 have c2b0 := beq_eq_false_iff_ne.mpr c2
 have c2b1 := bne_iff_ne.mpr c2
 by_cases c5 : a0_0 = 2
 ·rw [if_pos c5] at H
  have c5b0 := beq_iff_eq.mpr c5
  have c5b1 := bne_eq_false_iff_eq.mpr c5
  clear c5
  by_cases c6 : a0_2.toList = ([] : List UInt8)
  ·rw [if_pos c6] at H
   have c6b0 := beq_iff_eq.mpr c6
   have c6b1 := bne_eq_false_iff_eq.mpr c6
   clear c6
   by_cases c7 : a0_1 = 0
   ·rw [if_pos c7] at H
    have c7b0 := beq_iff_eq.mpr c7
    have c7b1 := bne_eq_false_iff_eq.mpr c7
    clear c7
    obtain rfl := Option.some.inj H
    go_enter Tryd.func66, Tryd.ntmps66
    go_wp2_with (first | ((with_reducible refine gd 1 rfl ?_); refine bxx 1 #[.int .i64 a0_0, .int .i64 a0_1, .string a0_2] 103 ?_; intro gb771 w8 BK771 GW771 HB; obtain ⟨_, _, _, _, _, _⟩ := cells3 BK771.out))
    go_ret
    exact ⟨qR, qB⟩
   rw [if_neg c7] at H
   have c7b0 := beq_eq_false_iff_ne.mpr c7
   have c7b1 := bne_iff_ne.mpr c7
   obtain rfl := Option.some.inj H
   go_enter Tryd.func66, Tryd.ntmps66
   go_wp2_with (first | ((with_reducible refine gd 1 rfl ?_); refine bxx 1 #[.int .i64 a0_0, .int .i64 a0_1, .string a0_2] 103 ?_; intro gb771 w10 BK771 GW771 HB; obtain ⟨_, _, _, _, _, _⟩ := cells3 BK771.out))
   go_ret
   exact ⟨qR, qB⟩
  rw [if_neg c6] at H
  have c6b0 := beq_eq_false_iff_ne.mpr c6
  have c6b1 := bne_iff_ne.mpr c6
  obtain rfl := Option.some.inj H
  go_enter Tryd.func66, Tryd.ntmps66
  go_wp2_with (first | ((with_reducible refine gd 1 rfl ?_); refine bxx 1 #[.int .i64 a0_0, .int .i64 a0_1, .string a0_2] 103 ?_; intro gb771 w12 BK771 GW771 HB; obtain ⟨_, _, _, _, _, _⟩ := cells3 BK771.out))
  go_ret
  exact ⟨qR, qB⟩
 rw [if_neg c5] at H
 have c5b0 := beq_eq_false_iff_ne.mpr c5
 have c5b1 := bne_iff_ne.mpr c5
 by_cases c14 : a0_0 = 3
 ·rw [if_pos c14] at H
  have c14b0 := beq_iff_eq.mpr c14
  have c14b1 := bne_eq_false_iff_eq.mpr c14
  clear c14
  by_cases c15 : a0_1 = 0
  ·rw [if_pos c15] at H
   have c15b0 := beq_iff_eq.mpr c15
   have c15b1 := bne_eq_false_iff_eq.mpr c15
   clear c15
   replace H := Option.bind_eq_some_iff.mp H
   obtain ⟨t772, A160, H⟩ := H
   (try dsimp -simprocs only at H)
   have A16 := Aside0.mk A160
   clear A160
   obtain rfl := Option.some.inj H
   go_enter Tryd.func66, Tryd.ntmps66
   go_wp2_with (first | ((with_reducible refine gd 1 rfl ?_); refine bxx 1 #[.int .i64 a0_0, .int .i64 a0_1, .string a0_2] 103 ?_; intro gb771 w17 BK771 GW771 HB; obtain ⟨_, _, _, _, _, _⟩ := cells3 BK771.out) | (go_at_call 101; (with_reducible refine (val_Plain.calls a0_2 t772 _ A16.out).mono ?_); rintro e w19 ⟨rfl, hb⟩; replace BK771 := kb gb771 hb; replace HB := bst hb; (try clear hb)))
   go_ret
   exact ⟨qR, qB⟩
  rw [if_neg c15] at H
  have c15b0 := beq_eq_false_iff_ne.mpr c15
  have c15b1 := bne_iff_ne.mpr c15
  obtain rfl := Option.some.inj H
  go_enter Tryd.func66, Tryd.ntmps66
  go_wp2_with (first | ((with_reducible refine gd 1 rfl ?_); refine bxx 1 #[.int .i64 a0_0, .int .i64 a0_1, .string a0_2] 103 ?_; intro gb771 w20 BK771 GW771 HB; obtain ⟨_, _, _, _, _, _⟩ := cells3 BK771.out))
  go_ret
  exact ⟨qR, qB⟩
 rw [if_neg c14] at H
 have c14b0 := beq_eq_false_iff_ne.mpr c14
 have c14b1 := bne_iff_ne.mpr c14
 obtain rfl := Option.some.inj H
 go_enter Tryd.func66, Tryd.ntmps66
 go_wp2_with (first | ((with_reducible refine gd 1 rfl ?_); refine bxx 1 #[.int .i64 a0_0, .int .i64 a0_1, .string a0_2] 103 ?_; intro gb771 w22 BK771 GW771 HB; obtain ⟨_, _, _, _, _, _⟩ := cells3 BK771.out))
 go_ret
 exact ⟨qR, qB⟩
end Go.Proofs.YtbngfhlciebeeaaDoor.L
end
section
namespace Go.Proofs.YtbngfhlciebeeaaDoor.L
open Go.RowKit Go.Proofs.YtbngfhlciebeeaaDoorW.PrintWords Go.Proofs.YtbngfhlciebeeaaDoorW.PrintLast Go.Proofs.YtbngfhlciebeeaaDoorW.PrintMore
attribute [local go_sem] max2_int min2_int max_two min_two max_three min_three max_four min_four   -- for this text's walks alone
set_option linter.unusedVariables false
set_option linter.unusedSimpArgs false
attribute [local go_sem high] eqA156
def expr_Node_right.j0 : Nat → Int → Bool → Int → Int → Int → ByteArray → ByteArray → Int → Int → Int → Int → Int → ByteArray → ByteArray → Int → Int → Option (Bool)
 | 0, _, _, _, _, _, _, _, _, _, _, _, _, _, _, _, _ => none
 | k + 1, x1, x36, x774000, x774001, x774002, x774003, x774004, x774005, x774006, x775000, x775001, x775002, x775003, x775004, x775005, x775006 => if x36 = true then (if (x774000 == x775000 && ((x774001 == x775001 && (x774002 == x775002 && (x774003.toList == x775003.toList))) && (x774005 == x775005 && (x774006 == x775006)))) = true then ((tok_Name.f k x774004).bind fun t776 => (some t776)) else (some false)) else ((expr_one.f x774000).bind fun t777 => (if t777 = true then (if (x774000 == x775000 && ((x774001 == x775001 && (x774002 == x775002 && (x774003.toList == x775003.toList))) && (x774004.toList == x775004.toList && (x774005 == (wrap64 (x1 - 1)) && (x774006 == x775006))))) = true then (if x774005 ≥ 0 then (some (decide (x774005 < x1))) else (some false)) else (some false)) else ((expr_two.f x774000).bind fun t778 => (if t778 = true then (if (x774000 == x775000 && ((x774001 == x775001 && (x774002 == x775002 && (x774003.toList == x775003.toList))) && (x774004.toList == x775004.toList && (x774006 == (wrap64 (x1 - 1)))))) = true then (if x774005 ≥ 0 then (some (decide (x774005 < x1))) else (some false)) else (some false)) else (some false)))))
def expr_Node_right.f (k : Nat) (a0_0 : Int) (a0_1 : Int) (a0_2 : Int) (a0_3 : ByteArray) (a0_4 : ByteArray) (a0_5 : Int) (a0_6 : Int) (a1 : Int) : Option (Bool) := if a0_0 = 0 then (if (a0_4.toList == ([] : List UInt8) && (a0_5 == 0 && (a0_6 == 0))) = true then ((val_Value_Right.f a0_1 a0_2 a0_3).bind fun t775 => (if t775 = true then (if a0_1 = 1 then (some (decide (a0_2 ≥ 0))) else (some true)) else (some false))) else (some false)) else (if a0_0 = 16 then (expr_Node_right.j0 k a1 true a0_0 a0_1 a0_2 a0_3 a0_4 a0_5 a0_6 a0_0 0 0 (⟨#[]⟩ : ByteArray) (⟨#[]⟩ : ByteArray) 0 0) else (expr_Node_right.j0 k a1 (a0_0 == 17) a0_0 a0_1 a0_2 a0_3 a0_4 a0_5 a0_6 a0_0 0 0 (⟨#[]⟩ : ByteArray) (⟨#[]⟩ : ByteArray) 0 0))
theorem nil_toL : (⟨#[]⟩ : ByteArray).toList = [] := by rw [ByteArray.toList_eq]
set_option maxHeartbeats 8000000 in
set_option maxRecDepth 100000 in
theorem expr_Node_right.calls (k : Nat) (a0_0 : Int) (a0_1 : Int) (a0_2 : Int) (a0_3 : ByteArray) (a0_4 : ByteArray) (a0_5 : Int) (a0_6 : Int) (a1 : Int) (r : Bool) (w : World) (hL : Laid w) (h : expr_Node_right.f k a0_0 a0_1 a0_2 a0_3 a0_4 a0_5 a0_6 a1 = some r) :
  Calls Tryd.prog 93 #[.agg #[.int .i64 a0_0, .int .i64 a0_1, .int .i64 a0_2, .string a0_3, .string a0_4, .int .i64 a0_5, .int .i64 a0_6], .int .i64 a1] w fun e w' => e = .returned (.bool r) ∧ Below w.heap.size w w' := by
 have hu156 := Tryd.underlying156
 have hu103 := Tryd.underlying103
 have HB := Aside0.mk (Below.refl w.heap.size w)
 have HLD := Aside0.mk hL
 clear hL
 have H : (if a0_0 = 0 then (if (a0_4.toList == ([] : List UInt8) && (a0_5 == 0 && (a0_6 == 0))) = true then ((val_Value_Right.f a0_1 a0_2 a0_3).bind fun t775 => (if t775 = true then (if a0_1 = 1 then (some (decide (a0_2 ≥ 0))) else (some true)) else (some false))) else (some false)) else (if a0_0 = 16 then (expr_Node_right.j0 k a1 true a0_0 a0_1 a0_2 a0_3 a0_4 a0_5 a0_6 a0_0 0 0 (⟨#[]⟩ : ByteArray) (⟨#[]⟩ : ByteArray) 0 0) else (expr_Node_right.j0 k a1 (a0_0 == 17) a0_0 a0_1 a0_2 a0_3 a0_4 a0_5 a0_6 a0_0 0 0 (⟨#[]⟩ : ByteArray) (⟨#[]⟩ : ByteArray) 0 0))) = some r := h
 clear h
 by_cases c3 : a0_0 = 0
 ·rw [if_pos c3] at H
  have c3b0 := beq_iff_eq.mpr c3
  have c3b1 := bne_eq_false_iff_eq.mpr c3
  clear c3
  by_cases c4 : (a0_4.toList == ([] : List UInt8) && (a0_5 == 0 && (a0_6 == 0))) = true
  ·rw [if_pos c4] at H
   have c4b0 : (a0_4.toList == ([] : List UInt8) && (a0_5 == 0 && (a0_6 == 0))) = true := c4
   (try (have c4b1 : decide (a0_4.toList = ([] : List UInt8) && (a0_5 == 0 && (a0_6 == 0))) = true := by simpa using c4))
   (try (have c4b2 : (a0_4.toList == ([] : List UInt8) && (a0_5 == 0 && (a0_6 == 0))) = true := by simpa using c4))
   have c4n := c4b0
   simp only [beq_self_eq_true, Bool.true_and, nil_toL, eq_nil_isEmpty] at c4n
   clear c4
   replace H := Option.bind_eq_some_iff.mp H
   obtain ⟨t775, A50, H⟩ := H
   (try dsimp -simprocs only at H)
   have A5 := Aside0.mk A50
   clear A50
   by_cases c6 : t775 = true
   ·subst c6
    rw [if_pos rfl] at H
    by_cases c7 : a0_1 = 1
    ·rw [if_pos c7] at H; have c7b0 := beq_iff_eq.mpr c7; have c7b1 := bne_eq_false_iff_eq.mpr c7; clear c7; obtain rfl := Option.some.inj H
     go_enter Tryd.func93, Tryd.ntmps93
     go_upto_region 3 with (first | ((with_reducible refine gd 2 rfl ?_); refine bxx 2 #[.int .i64 a0_0, .int .i64 a0_1, .int .i64 a0_2, .string a0_3, .string a0_4, .int .i64 a0_5, .int .i64 a0_6] 156 ?_; intro gb773 w38 BK773 GW773 HB; obtain ⟨_, _, _, _, _, _, _, _, _, _, _, _, _, _⟩ := cells7 BK773.out) | ((with_reducible refine gd 5 rfl ?_); refine bx 5 #[.int .i64 0, .int .i64 0, .int .i64 0, .string (⟨#[]⟩ : ByteArray), .string (⟨#[]⟩ : ByteArray), .int .i64 0, .int .i64 0] 156 ?_; intro gb774 hg w40 hbox hb; have BK774 := Aside0.mk (hbox); have GW774 := geS hg; have GE774 := geS hg; have NB773_774 := neS gb773 hg; have NB774_773 := neT gb773 hg; replace BK773 := kb gb773 hb; replace HB := bst hb; clear hb hbox hg; have := NB774_773.out; have := NB773_774.out; obtain ⟨_, _, _, _, _, _, _, _, _, _, _, _, _, _⟩ := cells7 BK774.out; obtain ⟨_, _, _, _, _, _, _, _, _, _, _, _, _, _⟩ := cells7 BK773.out))
     (try simp only [Act.put, List.setIfInBounds_toArray, List.set_cons_zero, List.set_cons_succ]); refine tell2 w gb773 gb774 (.cells #[.int .i64 a0_0, .int .i64 a0_1, .int .i64 a0_2, .string a0_3, .string a0_4, .int .i64 a0_5, .int .i64 a0_6] 156 (0, 0)) (.cells #[.int .i64 a0_0, .int .i64 0, .int .i64 0, .string (⟨#[]⟩ : ByteArray), .string (⟨#[]⟩ : ByteArray), .int .i64 0, .int .i64 0] 156 (0, 0)) qK (blk_is (blk_pl (blk_pl (blk_pl (blk_pl (blk_pl (blk_pl (blk_pl BK774.out))))))) rfl) qB ?_; intro W1 q1 q2 q3; clear BK773 BK774 HB; have BK773 := Aside0.mk q1; have BK774 := Aside0.mk q2; have HB := Aside0.mk q3; clear q1 q2 q3; have hnb := NB774_773.out; have hnc := NB773_774.out; obtain ⟨hA0, hA1, hA2, hA3, hA4, hA5, hA6, hB0, hB1, hB2, hB3, hB4, hB5, hB6⟩ := cells7 BK773.out; obtain ⟨hC0, hC1, hC2, hC3, hC4, hC5, hC6, hD0, hD1, hD2, hD3, hD4, hD5, hD6⟩ := cells7 BK774.out
     go_upto_region 5 with fail
     (try simp only [Act.put, List.setIfInBounds_toArray, List.set_cons_zero, List.set_cons_succ]); refine tell2 w gb773 gb774 (.cells #[.int .i64 a0_0, .int .i64 a0_1, .int .i64 a0_2, .string a0_3, .string a0_4, .int .i64 a0_5, .int .i64 a0_6] 156 (0, 0)) (.cells #[.int .i64 a0_0, .int .i64 a0_1, .int .i64 a0_2, .string a0_3, .string (⟨#[]⟩ : ByteArray), .int .i64 0, .int .i64 0] 156 (0, 0)) qK (blk_is (blk_pl (blk_pl (blk_pl BK774.out))) rfl) qB ?_; intro W1 q1 q2 q3; clear BK773 BK774 HB; have BK773 := Aside0.mk q1; have BK774 := Aside0.mk q2; have HB := Aside0.mk q3; clear q1 q2 q3; clear hA0 hA1 hA2 hA3 hA4 hA5 hA6 hB0 hB1 hB2 hB3 hB4 hB5 hB6 hC0 hC1 hC2 hC3 hC4 hC5 hC6 hD0 hD1 hD2 hD3 hD4 hD5 hD6; obtain ⟨hA0, hA1, hA2, hA3, hA4, hA5, hA6, hB0, hB1, hB2, hB3, hB4, hB5, hB6⟩ := cells7 BK773.out; obtain ⟨hC0, hC1, hC2, hC3, hC4, hC5, hC6, hD0, hD1, hD2, hD3, hD4, hD5, hD6⟩ := cells7 BK774.out
     go_wp2_with (first | (go_at_call 66; (with_reducible refine (val_Value_Right.calls a0_1 a0_2 a0_3 true _ A5.out).mono ?_); rintro e w14 ⟨rfl, hb⟩; replace BK773 := kb gb773 hb; replace BK774 := kp gb774 (.cells #[.int .i64 a0_0, .int .i64 a0_1, .int .i64 a0_2, .string a0_3, .string (⟨#[]⟩ : ByteArray), .int .i64 0, .int .i64 0] 156 (0, 0)) hb; replace HB := bst hb; (try clear hb); obtain ⟨_, _, _, _, _, _, _, _, _, _, _, _, _, _⟩ := cells7 BK773.out))
     go_ret; exact ⟨qR, qB⟩
    rw [if_neg c7] at H
    have c7b0 := beq_eq_false_iff_ne.mpr c7
    have c7b1 := bne_iff_ne.mpr c7
    obtain rfl := Option.some.inj H
    go_enter Tryd.func93, Tryd.ntmps93
    go_upto_region 3 with (first | ((with_reducible refine gd 2 rfl ?_); refine bxx 2 #[.int .i64 a0_0, .int .i64 a0_1, .int .i64 a0_2, .string a0_3, .string a0_4, .int .i64 a0_5, .int .i64 a0_6] 156 ?_; intro gb773 w38 BK773 GW773 HB; obtain ⟨_, _, _, _, _, _, _, _, _, _, _, _, _, _⟩ := cells7 BK773.out) | ((with_reducible refine gd 5 rfl ?_); refine bx 5 #[.int .i64 0, .int .i64 0, .int .i64 0, .string (⟨#[]⟩ : ByteArray), .string (⟨#[]⟩ : ByteArray), .int .i64 0, .int .i64 0] 156 ?_; intro gb774 hg w40 hbox hb; have BK774 := Aside0.mk (hbox); have GW774 := geS hg; have GE774 := geS hg; have NB773_774 := neS gb773 hg; have NB774_773 := neT gb773 hg; replace BK773 := kb gb773 hb; replace HB := bst hb; clear hb hbox hg; have := NB774_773.out; have := NB773_774.out; obtain ⟨_, _, _, _, _, _, _, _, _, _, _, _, _, _⟩ := cells7 BK774.out; obtain ⟨_, _, _, _, _, _, _, _, _, _, _, _, _, _⟩ := cells7 BK773.out))
    (try simp only [Act.put, List.setIfInBounds_toArray, List.set_cons_zero, List.set_cons_succ])
    refine tell2 w gb773 gb774 (.cells #[.int .i64 a0_0, .int .i64 a0_1, .int .i64 a0_2, .string a0_3, .string a0_4, .int .i64 a0_5, .int .i64 a0_6] 156 (0, 0)) (.cells #[.int .i64 a0_0, .int .i64 0, .int .i64 0, .string (⟨#[]⟩ : ByteArray), .string (⟨#[]⟩ : ByteArray), .int .i64 0, .int .i64 0] 156 (0, 0)) qK (blk_is (blk_pl (blk_pl (blk_pl (blk_pl (blk_pl (blk_pl (blk_pl BK774.out))))))) rfl) qB ?_
    intro W1 q1 q2 q3
    clear BK773 BK774 HB
    have BK773 := Aside0.mk q1
    have BK774 := Aside0.mk q2
    have HB := Aside0.mk q3
    clear q1 q2 q3
    have hnb := NB774_773.out
    have hnc := NB773_774.out
    obtain ⟨hA0, hA1, hA2, hA3, hA4, hA5, hA6, hB0, hB1, hB2, hB3, hB4, hB5, hB6⟩ := cells7 BK773.out
    obtain ⟨hC0, hC1, hC2, hC3, hC4, hC5, hC6, hD0, hD1, hD2, hD3, hD4, hD5, hD6⟩ := cells7 BK774.out
    go_upto_region 5 with fail
    (try simp only [Act.put, List.setIfInBounds_toArray, List.set_cons_zero, List.set_cons_succ])
    refine tell2 w gb773 gb774 (.cells #[.int .i64 a0_0, .int .i64 a0_1, .int .i64 a0_2, .string a0_3, .string a0_4, .int .i64 a0_5, .int .i64 a0_6] 156 (0, 0)) (.cells #[.int .i64 a0_0, .int .i64 a0_1, .int .i64 a0_2, .string a0_3, .string (⟨#[]⟩ : ByteArray), .int .i64 0, .int .i64 0] 156 (0, 0)) qK (blk_is (blk_pl (blk_pl (blk_pl BK774.out))) rfl) qB ?_
    intro W1 q1 q2 q3
    clear BK773 BK774 HB
    have BK773 := Aside0.mk q1
    have BK774 := Aside0.mk q2
    have HB := Aside0.mk q3
    clear q1 q2 q3
    clear hA0 hA1 hA2 hA3 hA4 hA5 hA6 hB0 hB1 hB2 hB3 hB4 hB5 hB6 hC0 hC1 hC2 hC3 hC4 hC5 hC6 hD0 hD1 hD2 hD3 hD4 hD5 hD6
    obtain ⟨hA0, hA1, hA2, hA3, hA4, hA5, hA6, hB0, hB1, hB2, hB3, hB4, hB5, hB6⟩ := cells7 BK773.out
    obtain ⟨hC0, hC1, hC2, hC3, hC4, hC5, hC6, hD0, hD1, hD2, hD3, hD4, hD5, hD6⟩ := cells7 BK774.out
    go_wp2_with (first | (go_at_call 66; (with_reducible refine (val_Value_Right.calls a0_1 a0_2 a0_3 true _ A5.out).mono ?_); rintro e w22 ⟨rfl, hb⟩; replace BK773 := kb gb773 hb; replace BK774 := kp gb774 (.cells #[.int .i64 a0_0, .int .i64 a0_1, .int .i64 a0_2, .string a0_3, .string (⟨#[]⟩ : ByteArray), .int .i64 0, .int .i64 0] 156 (0, 0)) hb; replace HB := bst hb; (try clear hb); obtain ⟨_, _, _, _, _, _, _, _, _, _, _, _, _, _⟩ := cells7 BK773.out))
    go_ret
    exact ⟨qR, qB⟩
   replace c6 := Bool.eq_false_iff.mpr c6
   subst c6
   rw [if_neg (show ¬ (false = true) by decide)] at H
   obtain rfl := Option.some.inj H
   go_enter Tryd.func93, Tryd.ntmps93
   go_upto_region 3 with (first | ((with_reducible refine gd 2 rfl ?_); refine bxx 2 #[.int .i64 a0_0, .int .i64 a0_1, .int .i64 a0_2, .string a0_3, .string a0_4, .int .i64 a0_5, .int .i64 a0_6] 156 ?_; intro gb773 w38 BK773 GW773 HB; obtain ⟨_, _, _, _, _, _, _, _, _, _, _, _, _, _⟩ := cells7 BK773.out) | ((with_reducible refine gd 5 rfl ?_); refine bx 5 #[.int .i64 0, .int .i64 0, .int .i64 0, .string (⟨#[]⟩ : ByteArray), .string (⟨#[]⟩ : ByteArray), .int .i64 0, .int .i64 0] 156 ?_; intro gb774 hg w40 hbox hb; have BK774 := Aside0.mk (hbox); have GW774 := geS hg; have GE774 := geS hg; have NB773_774 := neS gb773 hg; have NB774_773 := neT gb773 hg; replace BK773 := kb gb773 hb; replace HB := bst hb; clear hb hbox hg; have := NB774_773.out; have := NB773_774.out; obtain ⟨_, _, _, _, _, _, _, _, _, _, _, _, _, _⟩ := cells7 BK774.out; obtain ⟨_, _, _, _, _, _, _, _, _, _, _, _, _, _⟩ := cells7 BK773.out))
   (try simp only [Act.put, List.setIfInBounds_toArray, List.set_cons_zero, List.set_cons_succ])
   refine tell2 w gb773 gb774 (.cells #[.int .i64 a0_0, .int .i64 a0_1, .int .i64 a0_2, .string a0_3, .string a0_4, .int .i64 a0_5, .int .i64 a0_6] 156 (0, 0)) (.cells #[.int .i64 a0_0, .int .i64 0, .int .i64 0, .string (⟨#[]⟩ : ByteArray), .string (⟨#[]⟩ : ByteArray), .int .i64 0, .int .i64 0] 156 (0, 0)) qK (blk_is (blk_pl (blk_pl (blk_pl (blk_pl (blk_pl (blk_pl (blk_pl BK774.out))))))) rfl) qB ?_
   intro W1 q1 q2 q3
   clear BK773 BK774 HB
   have BK773 := Aside0.mk q1
   have BK774 := Aside0.mk q2
   have HB := Aside0.mk q3
   clear q1 q2 q3
   have hnb := NB774_773.out
   have hnc := NB773_774.out
   obtain ⟨hA0, hA1, hA2, hA3, hA4, hA5, hA6, hB0, hB1, hB2, hB3, hB4, hB5, hB6⟩ := cells7 BK773.out
   obtain ⟨hC0, hC1, hC2, hC3, hC4, hC5, hC6, hD0, hD1, hD2, hD3, hD4, hD5, hD6⟩ := cells7 BK774.out
   go_upto_region 5 with fail
   (try simp only [Act.put, List.setIfInBounds_toArray, List.set_cons_zero, List.set_cons_succ])
   refine tell2 w gb773 gb774 (.cells #[.int .i64 a0_0, .int .i64 a0_1, .int .i64 a0_2, .string a0_3, .string a0_4, .int .i64 a0_5, .int .i64 a0_6] 156 (0, 0)) (.cells #[.int .i64 a0_0, .int .i64 a0_1, .int .i64 a0_2, .string a0_3, .string (⟨#[]⟩ : ByteArray), .int .i64 0, .int .i64 0] 156 (0, 0)) qK (blk_is (blk_pl (blk_pl (blk_pl BK774.out))) rfl) qB ?_
   intro W1 q1 q2 q3
   clear BK773 BK774 HB
   have BK773 := Aside0.mk q1
   have BK774 := Aside0.mk q2
   have HB := Aside0.mk q3
   clear q1 q2 q3
   clear hA0 hA1 hA2 hA3 hA4 hA5 hA6 hB0 hB1 hB2 hB3 hB4 hB5 hB6 hC0 hC1 hC2 hC3 hC4 hC5 hC6 hD0 hD1 hD2 hD3 hD4 hD5 hD6
   obtain ⟨hA0, hA1, hA2, hA3, hA4, hA5, hA6, hB0, hB1, hB2, hB3, hB4, hB5, hB6⟩ := cells7 BK773.out
   obtain ⟨hC0, hC1, hC2, hC3, hC4, hC5, hC6, hD0, hD1, hD2, hD3, hD4, hD5, hD6⟩ := cells7 BK774.out
   go_wp2_with (first | (go_at_call 66; (with_reducible refine (val_Value_Right.calls a0_1 a0_2 a0_3 false _ A5.out).mono ?_); rintro e w30 ⟨rfl, hb⟩; replace BK773 := kb gb773 hb; replace BK774 := kp gb774 (.cells #[.int .i64 a0_0, .int .i64 a0_1, .int .i64 a0_2, .string a0_3, .string (⟨#[]⟩ : ByteArray), .int .i64 0, .int .i64 0] 156 (0, 0)) hb; replace HB := bst hb; (try clear hb)))
   go_ret
   exact ⟨qR, qB⟩
  rw [if_neg c4] at H
  have c4b0 : (a0_4.toList == ([] : List UInt8) && (a0_5 == 0 && (a0_6 == 0))) = false := by simpa using c4
  (try (have c4b1 : decide (a0_4.toList = ([] : List UInt8) && (a0_5 == 0 && (a0_6 == 0))) = false := by simpa using c4))
  (try (have c4b2 : (a0_4.toList == ([] : List UInt8) && (a0_5 == 0 && (a0_6 == 0))) = false := by simpa using c4))
  (try (have c4b3 : ¬ (a0_4.toList = ([] : List UInt8) && (a0_5 == 0 && (a0_6 == 0))) := by simpa using c4))
  have c4n := c4b0
  simp only [beq_self_eq_true, Bool.true_and, nil_toL, eq_nil_isEmpty] at c4n
  clear c4
  obtain rfl := Option.some.inj H
  go_enter Tryd.func93, Tryd.ntmps93
  go_upto_region 3 with (first | ((with_reducible refine gd 2 rfl ?_); refine bxx 2 #[.int .i64 a0_0, .int .i64 a0_1, .int .i64 a0_2, .string a0_3, .string a0_4, .int .i64 a0_5, .int .i64 a0_6] 156 ?_; intro gb773 w38 BK773 GW773 HB; obtain ⟨_, _, _, _, _, _, _, _, _, _, _, _, _, _⟩ := cells7 BK773.out) | ((with_reducible refine gd 5 rfl ?_); refine bx 5 #[.int .i64 0, .int .i64 0, .int .i64 0, .string (⟨#[]⟩ : ByteArray), .string (⟨#[]⟩ : ByteArray), .int .i64 0, .int .i64 0] 156 ?_; intro gb774 hg w40 hbox hb; have BK774 := Aside0.mk (hbox); have GW774 := geS hg; have GE774 := geS hg; have NB773_774 := neS gb773 hg; have NB774_773 := neT gb773 hg; replace BK773 := kb gb773 hb; replace HB := bst hb; clear hb hbox hg; have := NB774_773.out; have := NB773_774.out; obtain ⟨_, _, _, _, _, _, _, _, _, _, _, _, _, _⟩ := cells7 BK774.out; obtain ⟨_, _, _, _, _, _, _, _, _, _, _, _, _, _⟩ := cells7 BK773.out))
  (try simp only [Act.put, List.setIfInBounds_toArray, List.set_cons_zero, List.set_cons_succ])
  refine tell2 w gb773 gb774 (.cells #[.int .i64 a0_0, .int .i64 a0_1, .int .i64 a0_2, .string a0_3, .string a0_4, .int .i64 a0_5, .int .i64 a0_6] 156 (0, 0)) (.cells #[.int .i64 a0_0, .int .i64 0, .int .i64 0, .string (⟨#[]⟩ : ByteArray), .string (⟨#[]⟩ : ByteArray), .int .i64 0, .int .i64 0] 156 (0, 0)) qK (blk_is (blk_pl (blk_pl (blk_pl (blk_pl (blk_pl (blk_pl (blk_pl BK774.out))))))) rfl) qB ?_
  intro W1 q1 q2 q3
  clear BK773 BK774 HB
  have BK773 := Aside0.mk q1
  have BK774 := Aside0.mk q2
  have HB := Aside0.mk q3
  clear q1 q2 q3
  have hnb := NB774_773.out
  have hnc := NB773_774.out
  obtain ⟨hA0, hA1, hA2, hA3, hA4, hA5, hA6, hB0, hB1, hB2, hB3, hB4, hB5, hB6⟩ := cells7 BK773.out
  obtain ⟨hC0, hC1, hC2, hC3, hC4, hC5, hC6, hD0, hD1, hD2, hD3, hD4, hD5, hD6⟩ := cells7 BK774.out
  go_upto_region 5 with fail
  (try simp only [Act.put, List.setIfInBounds_toArray, List.set_cons_zero, List.set_cons_succ])
  refine tell2 w gb773 gb774 (.cells #[.int .i64 a0_0, .int .i64 a0_1, .int .i64 a0_2, .string a0_3, .string a0_4, .int .i64 a0_5, .int .i64 a0_6] 156 (0, 0)) (.cells #[.int .i64 a0_0, .int .i64 a0_1, .int .i64 a0_2, .string a0_3, .string (⟨#[]⟩ : ByteArray), .int .i64 0, .int .i64 0] 156 (0, 0)) qK (blk_is (blk_pl (blk_pl (blk_pl BK774.out))) rfl) qB ?_
  intro W1 q1 q2 q3
  clear BK773 BK774 HB
  have BK773 := Aside0.mk q1
  have BK774 := Aside0.mk q2
  have HB := Aside0.mk q3
  clear q1 q2 q3
  clear hA0 hA1 hA2 hA3 hA4 hA5 hA6 hB0 hB1 hB2 hB3 hB4 hB5 hB6 hC0 hC1 hC2 hC3 hC4 hC5 hC6 hD0 hD1 hD2 hD3 hD4 hD5 hD6
  obtain ⟨hA0, hA1, hA2, hA3, hA4, hA5, hA6, hB0, hB1, hB2, hB3, hB4, hB5, hB6⟩ := cells7 BK773.out
  obtain ⟨hC0, hC1, hC2, hC3, hC4, hC5, hC6, hD0, hD1, hD2, hD3, hD4, hD5, hD6⟩ := cells7 BK774.out
  go_wp2
  go_ret
  exact ⟨qR, qB⟩
 rw [if_neg c3] at H
 have c3b0 := beq_eq_false_iff_ne.mpr c3
 have c3b1 := bne_iff_ne.mpr c3
 have HC37 := Aside0.mk H
 clear H
 go_enter Tryd.func93, Tryd.ntmps93
 go_upto_region 3 with (first | ((with_reducible refine gd 2 rfl ?_); refine bxx 2 #[.int .i64 a0_0, .int .i64 a0_1, .int .i64 a0_2, .string a0_3, .string a0_4, .int .i64 a0_5, .int .i64 a0_6] 156 ?_; intro gb773 w38 BK773 GW773 HB; obtain ⟨_, _, _, _, _, _, _, _, _, _, _, _, _, _⟩ := cells7 BK773.out) | ((with_reducible refine gd 5 rfl ?_); refine bx 5 #[.int .i64 0, .int .i64 0, .int .i64 0, .string (⟨#[]⟩ : ByteArray), .string (⟨#[]⟩ : ByteArray), .int .i64 0, .int .i64 0] 156 ?_; intro gb774 hg w40 hbox hb; have BK774 := Aside0.mk (hbox); have GW774 := geS hg; have GE774 := geS hg; have NB773_774 := neS gb773 hg; have NB774_773 := neT gb773 hg; replace BK773 := kb gb773 hb; replace HB := bst hb; clear hb hbox hg; have := NB774_773.out; have := NB773_774.out; obtain ⟨_, _, _, _, _, _, _, _, _, _, _, _, _, _⟩ := cells7 BK774.out; obtain ⟨_, _, _, _, _, _, _, _, _, _, _, _, _, _⟩ := cells7 BK773.out))
 (try simp only [Act.put, List.setIfInBounds_toArray, List.set_cons_zero, List.set_cons_succ])
 refine tell2 w gb773 gb774 (.cells #[.int .i64 a0_0, .int .i64 a0_1, .int .i64 a0_2, .string a0_3, .string a0_4, .int .i64 a0_5, .int .i64 a0_6] 156 (0, 0)) (.cells #[.int .i64 a0_0, .int .i64 0, .int .i64 0, .string (⟨#[]⟩ : ByteArray), .string (⟨#[]⟩ : ByteArray), .int .i64 0, .int .i64 0] 156 (0, 0)) qK (blk_is (blk_pl (blk_pl (blk_pl (blk_pl (blk_pl (blk_pl (blk_pl BK774.out))))))) rfl) qB ?_
 intro W1 q1 q2 q3
 clear BK773 BK774 HB
 have BK773 := Aside0.mk q1
 have BK774 := Aside0.mk q2
 have HB := Aside0.mk q3
 clear q1 q2 q3
 have hnb := NB774_773.out
 have hnc := NB773_774.out
 obtain ⟨hA0, hA1, hA2, hA3, hA4, hA5, hA6, hB0, hB1, hB2, hB3, hB4, hB5, hB6⟩ := cells7 BK773.out
 obtain ⟨hC0, hC1, hC2, hC3, hC4, hC5, hC6, hD0, hD1, hD2, hD3, hD4, hD5, hD6⟩ := cells7 BK774.out
 go_upto_region 6 with fail
 (try simp only [Act.put, List.setIfInBounds_toArray, List.set_cons_zero, List.set_cons_succ])
 go_cut [36] (fun v36 wc => ∃ (kq : Nat) (x36_36 : Bool), v36 = .bool x36_36 ∧ Aside0 (expr_Node_right.j0 kq a1 x36_36 a0_0 a0_1 a0_2 a0_3 a0_4 a0_5 a0_6 a0_0 0 0 (⟨#[]⟩ : ByteArray) (⟨#[]⟩ : ByteArray) 0 0 = some r) ∧ Aside0 (kq ≤ k) ∧ Aside0 (wc.heap[gb773]? = some (.cells #[.int .i64 a0_0, .int .i64 a0_1, .int .i64 a0_2, .string a0_3, .string a0_4, .int .i64 a0_5, .int .i64 a0_6] 156 (0, 0))) ∧ Aside0 (wc.heap[gb774]? = some (.cells #[.int .i64 a0_0, .int .i64 0, .int .i64 0, .string (⟨#[]⟩ : ByteArray), .string (⟨#[]⟩ : ByteArray), .int .i64 0, .int .i64 0] 156 (0, 0))) ∧ Aside0 (Below w.heap.size w wc))
 case first =>
  have H := HC37.out
  clear HC37
  by_cases c44 : a0_0 = 16
  ·rw [if_pos c44] at H
   have c44b0 := beq_iff_eq.mpr c44
   have c44b1 := bne_eq_false_iff_eq.mpr c44
   clear c44
   (first | rw [c44b0] | (simp only [i64_w, i32_w]; rw [c44b0]) | skip)
   have H' := Aside0.mk H
   clear H
   have := NB773_774.out
   have := NB774_773.out
   obtain ⟨_, _, _, _, _, _, _, _, _, _, _, _, _, _⟩ := cells7 BK773.out
   go_wp2
   go_meet
   case rel => exact ⟨_, (true), qE, H', ⟨by first | omega | exact Nat.le_refl _⟩, ⟨qK⟩, ⟨qP⟩, ⟨qB⟩⟩
  rw [if_neg c44] at H
  have c44b0 := beq_eq_false_iff_ne.mpr c44
  have c44b1 := bne_iff_ne.mpr c44
  (first | rw [c44b0] | (simp only [i64_w, i32_w]; rw [c44b0]) | skip)
  have H' := Aside0.mk H
  clear H
  have := NB773_774.out
  have := NB774_773.out
  obtain ⟨_, _, _, _, _, _, _, _, _, _, _, _, _, _⟩ := cells7 BK773.out
  go_wp2
  go_meet
  case rel => exact ⟨_, ((a0_0 == 17)), qE, H', ⟨by first | omega | exact Nat.le_refl _⟩, ⟨qK⟩, ⟨qP⟩, ⟨qB⟩⟩
 case rest =>
  clear HC37
  try clear p2
  obtain ⟨kq, x36_36, rfl, HA, HJ36, BK773, BK774, HB⟩ := hcut
  cases kq with
  | zero => exact absurd HA.out (by simp [expr_Node_right.j0])
  | succ kj36 =>
   have H := HA.out
   clear HA
   simp only [expr_Node_right.j0] at H
   by_cases c49 : x36_36 = true
   ·subst c49
    rw [if_pos rfl] at H
    by_cases c50 : (a0_0 == a0_0 && ((a0_1 == 0 && (a0_2 == 0 && (a0_3.toList == (⟨#[]⟩ : ByteArray).toList))) && (a0_5 == 0 && (a0_6 == 0)))) = true
    ·rw [if_pos c50] at H; have c50b0 : (a0_0 == a0_0 && ((a0_1 == 0 && (a0_2 == 0 && (a0_3.toList == (⟨#[]⟩ : ByteArray).toList))) && (a0_5 == 0 && (a0_6 == 0)))) = true := c50; (try (have c50b1 : decide (a0_0 = a0_0 && ((a0_1 == 0 && (a0_2 == 0 && (a0_3.toList == (⟨#[]⟩ : ByteArray).toList))) && (a0_5 == 0 && (a0_6 == 0)))) = true := by simpa using c50)); (try (have c50b2 : (a0_0 == a0_0 && ((a0_1 == 0 && (a0_2 == 0 && (a0_3.toList == (⟨#[]⟩ : ByteArray).toList))) && (a0_5 == 0 && (a0_6 == 0)))) = true := by simpa using c50)); have c50n := c50b0; simp only [beq_self_eq_true, Bool.true_and, nil_toL, eq_nil_isEmpty] at c50n; clear c50; replace H := Option.bind_eq_some_iff.mp H; obtain ⟨t776, A510, H⟩ := H; (try dsimp -simprocs only at H); have A51 := Aside0.mk A510; clear A510; obtain rfl := Option.some.inj H; have := NB773_774.out; have := NB774_773.out; obtain ⟨_, _, _, _, _, _, _, _, _, _, _, _, _, _⟩ := cells7 BK773.out; obtain ⟨_, _, _, _, _, _, _, _, _, _, _, _, _, _⟩ := cells7 BK774.out
     go_wp2_with (first | (go_at_call 26; (with_reducible refine (tok_Name.calls kj36 a0_4 t776 _ ?side1 A51.out).mono ?_); (case side1 => exact Laid.below HLD.out qB); rintro e w55 ⟨rfl, hb⟩; replace BK773 := kb gb773 hb; replace BK774 := kp gb774 (.cells #[.int .i64 a0_0, .int .i64 0, .int .i64 0, .string (⟨#[]⟩ : ByteArray), .string a0_4, .int .i64 0, .int .i64 0] 156 (0, 0)) hb; replace HB := bst hb; (try clear hb)))
     go_ret; exact ⟨qR, qB⟩
    rw [if_neg c50] at H
    have c50b0 : (a0_0 == a0_0 && ((a0_1 == 0 && (a0_2 == 0 && (a0_3.toList == (⟨#[]⟩ : ByteArray).toList))) && (a0_5 == 0 && (a0_6 == 0)))) = false := by simpa using c50
    (try (have c50b1 : decide (a0_0 = a0_0 && ((a0_1 == 0 && (a0_2 == 0 && (a0_3.toList == (⟨#[]⟩ : ByteArray).toList))) && (a0_5 == 0 && (a0_6 == 0)))) = false := by simpa using c50))
    (try (have c50b2 : (a0_0 == a0_0 && ((a0_1 == 0 && (a0_2 == 0 && (a0_3.toList == (⟨#[]⟩ : ByteArray).toList))) && (a0_5 == 0 && (a0_6 == 0)))) = false := by simpa using c50))
    (try (have c50b3 : ¬ (a0_0 = a0_0 && ((a0_1 == 0 && (a0_2 == 0 && (a0_3.toList == (⟨#[]⟩ : ByteArray).toList))) && (a0_5 == 0 && (a0_6 == 0)))) := by simpa using c50))
    have c50n := c50b0
    simp only [beq_self_eq_true, Bool.true_and, nil_toL, eq_nil_isEmpty] at c50n
    clear c50
    obtain rfl := Option.some.inj H
    have := NB773_774.out
    have := NB774_773.out
    obtain ⟨_, _, _, _, _, _, _, _, _, _, _, _, _, _⟩ := cells7 BK773.out
    obtain ⟨_, _, _, _, _, _, _, _, _, _, _, _, _, _⟩ := cells7 BK774.out
    go_wp2
    go_ret
    exact ⟨qR, qB⟩
   replace c49 := Bool.eq_false_iff.mpr c49
   subst c49
   rw [if_neg (show ¬ (false = true) by decide)] at H
   replace H := Option.bind_eq_some_iff.mp H
   obtain ⟨t777, A590, H⟩ := H
   (try dsimp -simprocs only at H)
   have A59 := Aside0.mk A590
   clear A590
   by_cases c60 : t777 = true
   ·subst c60
    rw [if_pos rfl] at H
    by_cases c61 : (a0_0 == a0_0 && ((a0_1 == 0 && (a0_2 == 0 && (a0_3.toList == (⟨#[]⟩ : ByteArray).toList))) && (a0_4.toList == (⟨#[]⟩ : ByteArray).toList && (a0_5 == (wrap64 (a1 - 1)) && (a0_6 == 0))))) = true
    ·rw [if_pos c61] at H; have c61b0 : (a0_0 == a0_0 && ((a0_1 == 0 && (a0_2 == 0 && (a0_3.toList == (⟨#[]⟩ : ByteArray).toList))) && (a0_4.toList == (⟨#[]⟩ : ByteArray).toList && (a0_5 == (wrap64 (a1 - 1)) && (a0_6 == 0))))) = true := c61; (try (have c61b1 : decide (a0_0 = a0_0 && ((a0_1 == 0 && (a0_2 == 0 && (a0_3.toList == (⟨#[]⟩ : ByteArray).toList))) && (a0_4.toList == (⟨#[]⟩ : ByteArray).toList && (a0_5 == (wrap64 (a1 - 1)) && (a0_6 == 0))))) = true := by simpa using c61)); (try (have c61b2 : (a0_0 == a0_0 && ((a0_1 == 0 && (a0_2 == 0 && (a0_3.toList == (⟨#[]⟩ : ByteArray).toList))) && (a0_4.toList == (⟨#[]⟩ : ByteArray).toList && (a0_5 == (wrap64 (a1 - 1)) && (a0_6 == 0))))) = true := by simpa using c61)); have c61n := c61b0; simp only [beq_self_eq_true, Bool.true_and, nil_toL, eq_nil_isEmpty] at c61n; clear c61; replace H := iD H
     rcases H with ⟨c62b0, H⟩ | ⟨c62b0, H⟩
     ·obtain rfl := Option.some.inj H; have := NB773_774.out; have := NB774_773.out; obtain ⟨_, _, _, _, _, _, _, _, _, _, _, _, _, _⟩ := cells7 BK773.out
      go_wp2_with (first | ((with_reducible refine gc 119 rfl ?_); refine gl (some 59) #[.int .i64 a0_0] Tryd.func119 ?_; (with_reducible refine (expr_one.calls a0_0 true _ A59.out).mono ?_); rintro e w' ⟨rfl, ⟨nd, rfl⟩⟩; refine ⟨_, rfl, ?_⟩; (try (rw [drewN_self wc]; generalize hq_ : World.drewN wc _ = wc; have n0_ : Aside0 (wc.heap[gb773]? = some (.cells #[.int .i64 a0_0, .int .i64 a0_1, .int .i64 a0_2, .string a0_3, .string a0_4, .int .i64 a0_5, .int .i64 a0_6] 156 (0, 0))) := ⟨by rw [← hq_]; exact qK⟩; have n1_ : Aside0 (wc.heap[gb774]? = some (.cells #[.int .i64 a0_0, .int .i64 0, .int .i64 0, .string (⟨#[]⟩ : ByteArray), .string (⟨#[]⟩ : ByteArray), .int .i64 0, .int .i64 0] 156 (0, 0))) := ⟨by rw [← hq_]; exact qK⟩; have n2_ : Aside0 (Below w.heap.size w wc) := ⟨by rw [← hq_]; exact qB⟩; clear BK773 BK774 HB hq_; have BK773 := n0_; have BK774 := n1_; have HB := n2_; clear n0_ n1_ n2_)); (try (obtain ⟨hE0, hE1, hE2, hE3, hE4, hE5, hE6, hF0, hF1, hF2, hF3, hF4, hF5, hF6⟩ := cells7 BK773.out; obtain ⟨hG0, hG1, hG2, hG3, hG4, hG5, hG6, hH0, hH1, hH2, hH3, hH4, hH5, hH6⟩ := cells7 BK774.out))))
      go_ret; exact ⟨qR, qB⟩
     obtain rfl := Option.some.inj H; have := NB773_774.out; have := NB774_773.out; obtain ⟨_, _, _, _, _, _, _, _, _, _, _, _, _, _⟩ := cells7 BK773.out
     go_wp2_with (first | ((with_reducible refine gc 119 rfl ?_); refine gl (some 59) #[.int .i64 a0_0] Tryd.func119 ?_; (with_reducible refine (expr_one.calls a0_0 true _ A59.out).mono ?_); rintro e w' ⟨rfl, ⟨nd, rfl⟩⟩; refine ⟨_, rfl, ?_⟩; (try (rw [drewN_self wc]; generalize hq_ : World.drewN wc _ = wc; have n0_ : Aside0 (wc.heap[gb773]? = some (.cells #[.int .i64 a0_0, .int .i64 a0_1, .int .i64 a0_2, .string a0_3, .string a0_4, .int .i64 a0_5, .int .i64 a0_6] 156 (0, 0))) := ⟨by rw [← hq_]; exact qK⟩; have n1_ : Aside0 (wc.heap[gb774]? = some (.cells #[.int .i64 a0_0, .int .i64 0, .int .i64 0, .string (⟨#[]⟩ : ByteArray), .string (⟨#[]⟩ : ByteArray), .int .i64 0, .int .i64 0] 156 (0, 0))) := ⟨by rw [← hq_]; exact qK⟩; have n2_ : Aside0 (Below w.heap.size w wc) := ⟨by rw [← hq_]; exact qB⟩; clear BK773 BK774 HB hq_; have BK773 := n0_; have BK774 := n1_; have HB := n2_; clear n0_ n1_ n2_)); (try (obtain ⟨hE0, hE1, hE2, hE3, hE4, hE5, hE6, hF0, hF1, hF2, hF3, hF4, hF5, hF6⟩ := cells7 BK773.out; obtain ⟨hG0, hG1, hG2, hG3, hG4, hG5, hG6, hH0, hH1, hH2, hH3, hH4, hH5, hH6⟩ := cells7 BK774.out))))
     go_ret; exact ⟨qR, qB⟩
    rw [if_neg c61] at H
    have c61b0 : (a0_0 == a0_0 && ((a0_1 == 0 && (a0_2 == 0 && (a0_3.toList == (⟨#[]⟩ : ByteArray).toList))) && (a0_4.toList == (⟨#[]⟩ : ByteArray).toList && (a0_5 == (wrap64 (a1 - 1)) && (a0_6 == 0))))) = false := by simpa using c61
    (try (have c61b1 : decide (a0_0 = a0_0 && ((a0_1 == 0 && (a0_2 == 0 && (a0_3.toList == (⟨#[]⟩ : ByteArray).toList))) && (a0_4.toList == (⟨#[]⟩ : ByteArray).toList && (a0_5 == (wrap64 (a1 - 1)) && (a0_6 == 0))))) = false := by simpa using c61))
    (try (have c61b2 : (a0_0 == a0_0 && ((a0_1 == 0 && (a0_2 == 0 && (a0_3.toList == (⟨#[]⟩ : ByteArray).toList))) && (a0_4.toList == (⟨#[]⟩ : ByteArray).toList && (a0_5 == (wrap64 (a1 - 1)) && (a0_6 == 0))))) = false := by simpa using c61))
    (try (have c61b3 : ¬ (a0_0 = a0_0 && ((a0_1 == 0 && (a0_2 == 0 && (a0_3.toList == (⟨#[]⟩ : ByteArray).toList))) && (a0_4.toList == (⟨#[]⟩ : ByteArray).toList && (a0_5 == (wrap64 (a1 - 1)) && (a0_6 == 0))))) := by simpa using c61))
    have c61n := c61b0
    simp only [beq_self_eq_true, Bool.true_and, nil_toL, eq_nil_isEmpty] at c61n
    clear c61
    obtain rfl := Option.some.inj H
    have := NB773_774.out
    have := NB774_773.out
    obtain ⟨_, _, _, _, _, _, _, _, _, _, _, _, _, _⟩ := cells7 BK773.out
    go_wp2_with (first | ((with_reducible refine gc 119 rfl ?_); refine gl (some 59) #[.int .i64 a0_0] Tryd.func119 ?_; (with_reducible refine (expr_one.calls a0_0 true _ A59.out).mono ?_); rintro e w' ⟨rfl, ⟨nd, rfl⟩⟩; refine ⟨_, rfl, ?_⟩; (try (rw [drewN_self wc]; generalize hq_ : World.drewN wc _ = wc; have n0_ : Aside0 (wc.heap[gb773]? = some (.cells #[.int .i64 a0_0, .int .i64 a0_1, .int .i64 a0_2, .string a0_3, .string a0_4, .int .i64 a0_5, .int .i64 a0_6] 156 (0, 0))) := ⟨by rw [← hq_]; exact qK⟩; have n1_ : Aside0 (wc.heap[gb774]? = some (.cells #[.int .i64 a0_0, .int .i64 0, .int .i64 0, .string (⟨#[]⟩ : ByteArray), .string (⟨#[]⟩ : ByteArray), .int .i64 0, .int .i64 0] 156 (0, 0))) := ⟨by rw [← hq_]; exact qK⟩; have n2_ : Aside0 (Below w.heap.size w wc) := ⟨by rw [← hq_]; exact qB⟩; clear BK773 BK774 HB hq_; have BK773 := n0_; have BK774 := n1_; have HB := n2_; clear n0_ n1_ n2_)); (try (obtain ⟨hE0, hE1, hE2, hE3, hE4, hE5, hE6, hF0, hF1, hF2, hF3, hF4, hF5, hF6⟩ := cells7 BK773.out; obtain ⟨hG0, hG1, hG2, hG3, hG4, hG5, hG6, hH0, hH1, hH2, hH3, hH4, hH5, hH6⟩ := cells7 BK774.out))))
    go_ret
    exact ⟨qR, qB⟩
   replace c60 := Bool.eq_false_iff.mpr c60
   subst c60
   rw [if_neg (show ¬ (false = true) by decide)] at H
   replace H := Option.bind_eq_some_iff.mp H
   obtain ⟨t778, A720, H⟩ := H
   (try dsimp -simprocs only at H)
   have A72 := Aside0.mk A720
   clear A720
   by_cases c73 : t778 = true
   ·subst c73
    rw [if_pos rfl] at H
    by_cases c74 : (a0_0 == a0_0 && ((a0_1 == 0 && (a0_2 == 0 && (a0_3.toList == (⟨#[]⟩ : ByteArray).toList))) && (a0_4.toList == (⟨#[]⟩ : ByteArray).toList && (a0_6 == (wrap64 (a1 - 1)))))) = true
    ·rw [if_pos c74] at H; have c74b0 : (a0_0 == a0_0 && ((a0_1 == 0 && (a0_2 == 0 && (a0_3.toList == (⟨#[]⟩ : ByteArray).toList))) && (a0_4.toList == (⟨#[]⟩ : ByteArray).toList && (a0_6 == (wrap64 (a1 - 1)))))) = true := c74; (try (have c74b1 : decide (a0_0 = a0_0 && ((a0_1 == 0 && (a0_2 == 0 && (a0_3.toList == (⟨#[]⟩ : ByteArray).toList))) && (a0_4.toList == (⟨#[]⟩ : ByteArray).toList && (a0_6 == (wrap64 (a1 - 1)))))) = true := by simpa using c74)); (try (have c74b2 : (a0_0 == a0_0 && ((a0_1 == 0 && (a0_2 == 0 && (a0_3.toList == (⟨#[]⟩ : ByteArray).toList))) && (a0_4.toList == (⟨#[]⟩ : ByteArray).toList && (a0_6 == (wrap64 (a1 - 1)))))) = true := by simpa using c74)); have c74n := c74b0; simp only [beq_self_eq_true, Bool.true_and, nil_toL, eq_nil_isEmpty] at c74n; clear c74; replace H := iD H
     rcases H with ⟨c75b0, H⟩ | ⟨c75b0, H⟩
     ·obtain rfl := Option.some.inj H; have := NB773_774.out; have := NB774_773.out; obtain ⟨_, _, _, _, _, _, _, _, _, _, _, _, _, _⟩ := cells7 BK773.out
      go_wp2_with (first | ((with_reducible refine gc 119 rfl ?_); refine gl (some 59) #[.int .i64 a0_0] Tryd.func119 ?_; (with_reducible refine (expr_one.calls a0_0 false _ A59.out).mono ?_); rintro e w' ⟨rfl, ⟨nd, rfl⟩⟩; refine ⟨_, rfl, ?_⟩; (try (rw [drewN_self wc]; generalize hq_ : World.drewN wc _ = wc; have n0_ : Aside0 (wc.heap[gb773]? = some (.cells #[.int .i64 a0_0, .int .i64 a0_1, .int .i64 a0_2, .string a0_3, .string a0_4, .int .i64 a0_5, .int .i64 a0_6] 156 (0, 0))) := ⟨by rw [← hq_]; exact qK⟩; have n1_ : Aside0 (wc.heap[gb774]? = some (.cells #[.int .i64 a0_0, .int .i64 0, .int .i64 0, .string (⟨#[]⟩ : ByteArray), .string (⟨#[]⟩ : ByteArray), .int .i64 0, .int .i64 0] 156 (0, 0))) := ⟨by rw [← hq_]; exact qK⟩; have n2_ : Aside0 (Below w.heap.size w wc) := ⟨by rw [← hq_]; exact qB⟩; clear BK773 BK774 HB hq_; have BK773 := n0_; have BK774 := n1_; have HB := n2_; clear n0_ n1_ n2_)); (try (obtain ⟨hE0, hE1, hE2, hE3, hE4, hE5, hE6, hF0, hF1, hF2, hF3, hF4, hF5, hF6⟩ := cells7 BK773.out; obtain ⟨hG0, hG1, hG2, hG3, hG4, hG5, hG6, hH0, hH1, hH2, hH3, hH4, hH5, hH6⟩ := cells7 BK774.out))) | ((with_reducible refine gc 120 rfl ?_); refine gl (some 66) #[.int .i64 a0_0] Tryd.func120 ?_; (with_reducible refine (expr_two.calls a0_0 true _ A72.out).mono ?_); rintro e w' ⟨rfl, ⟨nd, rfl⟩⟩; refine ⟨_, rfl, ?_⟩; (try (rw [drewN_self wc]; generalize hq_ : World.drewN wc _ = wc; have n0_ : Aside0 (wc.heap[gb773]? = some (.cells #[.int .i64 a0_0, .int .i64 a0_1, .int .i64 a0_2, .string a0_3, .string a0_4, .int .i64 a0_5, .int .i64 a0_6] 156 (0, 0))) := ⟨by rw [← hq_]; exact qK⟩; have n1_ : Aside0 (wc.heap[gb774]? = some (.cells #[.int .i64 a0_0, .int .i64 0, .int .i64 0, .string (⟨#[]⟩ : ByteArray), .string (⟨#[]⟩ : ByteArray), .int .i64 0, .int .i64 0] 156 (0, 0))) := ⟨by rw [← hq_]; exact qK⟩; have n2_ : Aside0 (Below w.heap.size w wc) := ⟨by rw [← hq_]; exact qB⟩; clear BK773 BK774 HB hq_; have BK773 := n0_; have BK774 := n1_; have HB := n2_; clear n0_ n1_ n2_)); (try (obtain ⟨hE0, hE1, hE2, hE3, hE4, hE5, hE6, hF0, hF1, hF2, hF3, hF4, hF5, hF6⟩ := cells7 BK773.out; obtain ⟨hG0, hG1, hG2, hG3, hG4, hG5, hG6, hH0, hH1, hH2, hH3, hH4, hH5, hH6⟩ := cells7 BK774.out))))
      go_ret; exact ⟨qR, qB⟩
     obtain rfl := Option.some.inj H; have := NB773_774.out; have := NB774_773.out; obtain ⟨_, _, _, _, _, _, _, _, _, _, _, _, _, _⟩ := cells7 BK773.out
     go_wp2_with (first | ((with_reducible refine gc 119 rfl ?_); refine gl (some 59) #[.int .i64 a0_0] Tryd.func119 ?_; (with_reducible refine (expr_one.calls a0_0 false _ A59.out).mono ?_); rintro e w' ⟨rfl, ⟨nd, rfl⟩⟩; refine ⟨_, rfl, ?_⟩; (try (rw [drewN_self wc]; generalize hq_ : World.drewN wc _ = wc; have n0_ : Aside0 (wc.heap[gb773]? = some (.cells #[.int .i64 a0_0, .int .i64 a0_1, .int .i64 a0_2, .string a0_3, .string a0_4, .int .i64 a0_5, .int .i64 a0_6] 156 (0, 0))) := ⟨by rw [← hq_]; exact qK⟩; have n1_ : Aside0 (wc.heap[gb774]? = some (.cells #[.int .i64 a0_0, .int .i64 0, .int .i64 0, .string (⟨#[]⟩ : ByteArray), .string (⟨#[]⟩ : ByteArray), .int .i64 0, .int .i64 0] 156 (0, 0))) := ⟨by rw [← hq_]; exact qK⟩; have n2_ : Aside0 (Below w.heap.size w wc) := ⟨by rw [← hq_]; exact qB⟩; clear BK773 BK774 HB hq_; have BK773 := n0_; have BK774 := n1_; have HB := n2_; clear n0_ n1_ n2_)); (try (obtain ⟨hE0, hE1, hE2, hE3, hE4, hE5, hE6, hF0, hF1, hF2, hF3, hF4, hF5, hF6⟩ := cells7 BK773.out; obtain ⟨hG0, hG1, hG2, hG3, hG4, hG5, hG6, hH0, hH1, hH2, hH3, hH4, hH5, hH6⟩ := cells7 BK774.out))) | ((with_reducible refine gc 120 rfl ?_); refine gl (some 66) #[.int .i64 a0_0] Tryd.func120 ?_; (with_reducible refine (expr_two.calls a0_0 true _ A72.out).mono ?_); rintro e w' ⟨rfl, ⟨nd, rfl⟩⟩; refine ⟨_, rfl, ?_⟩; (try (rw [drewN_self wc]; generalize hq_ : World.drewN wc _ = wc; have n0_ : Aside0 (wc.heap[gb773]? = some (.cells #[.int .i64 a0_0, .int .i64 a0_1, .int .i64 a0_2, .string a0_3, .string a0_4, .int .i64 a0_5, .int .i64 a0_6] 156 (0, 0))) := ⟨by rw [← hq_]; exact qK⟩; have n1_ : Aside0 (wc.heap[gb774]? = some (.cells #[.int .i64 a0_0, .int .i64 0, .int .i64 0, .string (⟨#[]⟩ : ByteArray), .string (⟨#[]⟩ : ByteArray), .int .i64 0, .int .i64 0] 156 (0, 0))) := ⟨by rw [← hq_]; exact qK⟩; have n2_ : Aside0 (Below w.heap.size w wc) := ⟨by rw [← hq_]; exact qB⟩; clear BK773 BK774 HB hq_; have BK773 := n0_; have BK774 := n1_; have HB := n2_; clear n0_ n1_ n2_)); (try (obtain ⟨hE0, hE1, hE2, hE3, hE4, hE5, hE6, hF0, hF1, hF2, hF3, hF4, hF5, hF6⟩ := cells7 BK773.out; obtain ⟨hG0, hG1, hG2, hG3, hG4, hG5, hG6, hH0, hH1, hH2, hH3, hH4, hH5, hH6⟩ := cells7 BK774.out))))
     go_ret; exact ⟨qR, qB⟩
    rw [if_neg c74] at H
    have c74b0 : (a0_0 == a0_0 && ((a0_1 == 0 && (a0_2 == 0 && (a0_3.toList == (⟨#[]⟩ : ByteArray).toList))) && (a0_4.toList == (⟨#[]⟩ : ByteArray).toList && (a0_6 == (wrap64 (a1 - 1)))))) = false := by simpa using c74
    (try (have c74b1 : decide (a0_0 = a0_0 && ((a0_1 == 0 && (a0_2 == 0 && (a0_3.toList == (⟨#[]⟩ : ByteArray).toList))) && (a0_4.toList == (⟨#[]⟩ : ByteArray).toList && (a0_6 == (wrap64 (a1 - 1)))))) = false := by simpa using c74))
    (try (have c74b2 : (a0_0 == a0_0 && ((a0_1 == 0 && (a0_2 == 0 && (a0_3.toList == (⟨#[]⟩ : ByteArray).toList))) && (a0_4.toList == (⟨#[]⟩ : ByteArray).toList && (a0_6 == (wrap64 (a1 - 1)))))) = false := by simpa using c74))
    (try (have c74b3 : ¬ (a0_0 = a0_0 && ((a0_1 == 0 && (a0_2 == 0 && (a0_3.toList == (⟨#[]⟩ : ByteArray).toList))) && (a0_4.toList == (⟨#[]⟩ : ByteArray).toList && (a0_6 == (wrap64 (a1 - 1)))))) := by simpa using c74))
    have c74n := c74b0
    simp only [beq_self_eq_true, Bool.true_and, nil_toL, eq_nil_isEmpty] at c74n
    clear c74
    obtain rfl := Option.some.inj H
    have := NB773_774.out
    have := NB774_773.out
    obtain ⟨_, _, _, _, _, _, _, _, _, _, _, _, _, _⟩ := cells7 BK773.out
    go_wp2_with (first | ((with_reducible refine gc 119 rfl ?_); refine gl (some 59) #[.int .i64 a0_0] Tryd.func119 ?_; (with_reducible refine (expr_one.calls a0_0 false _ A59.out).mono ?_); rintro e w' ⟨rfl, ⟨nd, rfl⟩⟩; refine ⟨_, rfl, ?_⟩; (try (rw [drewN_self wc]; generalize hq_ : World.drewN wc _ = wc; have n0_ : Aside0 (wc.heap[gb773]? = some (.cells #[.int .i64 a0_0, .int .i64 a0_1, .int .i64 a0_2, .string a0_3, .string a0_4, .int .i64 a0_5, .int .i64 a0_6] 156 (0, 0))) := ⟨by rw [← hq_]; exact qK⟩; have n1_ : Aside0 (wc.heap[gb774]? = some (.cells #[.int .i64 a0_0, .int .i64 0, .int .i64 0, .string (⟨#[]⟩ : ByteArray), .string (⟨#[]⟩ : ByteArray), .int .i64 0, .int .i64 0] 156 (0, 0))) := ⟨by rw [← hq_]; exact qK⟩; have n2_ : Aside0 (Below w.heap.size w wc) := ⟨by rw [← hq_]; exact qB⟩; clear BK773 BK774 HB hq_; have BK773 := n0_; have BK774 := n1_; have HB := n2_; clear n0_ n1_ n2_)); (try (obtain ⟨hE0, hE1, hE2, hE3, hE4, hE5, hE6, hF0, hF1, hF2, hF3, hF4, hF5, hF6⟩ := cells7 BK773.out; obtain ⟨hG0, hG1, hG2, hG3, hG4, hG5, hG6, hH0, hH1, hH2, hH3, hH4, hH5, hH6⟩ := cells7 BK774.out))) | ((with_reducible refine gc 120 rfl ?_); refine gl (some 66) #[.int .i64 a0_0] Tryd.func120 ?_; (with_reducible refine (expr_two.calls a0_0 true _ A72.out).mono ?_); rintro e w' ⟨rfl, ⟨nd, rfl⟩⟩; refine ⟨_, rfl, ?_⟩; (try (rw [drewN_self wc]; generalize hq_ : World.drewN wc _ = wc; have n0_ : Aside0 (wc.heap[gb773]? = some (.cells #[.int .i64 a0_0, .int .i64 a0_1, .int .i64 a0_2, .string a0_3, .string a0_4, .int .i64 a0_5, .int .i64 a0_6] 156 (0, 0))) := ⟨by rw [← hq_]; exact qK⟩; have n1_ : Aside0 (wc.heap[gb774]? = some (.cells #[.int .i64 a0_0, .int .i64 0, .int .i64 0, .string (⟨#[]⟩ : ByteArray), .string (⟨#[]⟩ : ByteArray), .int .i64 0, .int .i64 0] 156 (0, 0))) := ⟨by rw [← hq_]; exact qK⟩; have n2_ : Aside0 (Below w.heap.size w wc) := ⟨by rw [← hq_]; exact qB⟩; clear BK773 BK774 HB hq_; have BK773 := n0_; have BK774 := n1_; have HB := n2_; clear n0_ n1_ n2_)); (try (obtain ⟨hE0, hE1, hE2, hE3, hE4, hE5, hE6, hF0, hF1, hF2, hF3, hF4, hF5, hF6⟩ := cells7 BK773.out; obtain ⟨hG0, hG1, hG2, hG3, hG4, hG5, hG6, hH0, hH1, hH2, hH3, hH4, hH5, hH6⟩ := cells7 BK774.out))))
    go_ret
    exact ⟨qR, qB⟩
   replace c73 := Bool.eq_false_iff.mpr c73
   subst c73
   rw [if_neg (show ¬ (false = true) by decide)] at H
   obtain rfl := Option.some.inj H
   have := NB773_774.out
   have := NB774_773.out
   obtain ⟨_, _, _, _, _, _, _, _, _, _, _, _, _, _⟩ := cells7 BK773.out
   go_wp2_with (first | ((with_reducible refine gc 119 rfl ?_); refine gl (some 59) #[.int .i64 a0_0] Tryd.func119 ?_; (with_reducible refine (expr_one.calls a0_0 false _ A59.out).mono ?_); rintro e w' ⟨rfl, ⟨nd, rfl⟩⟩; refine ⟨_, rfl, ?_⟩; (try (obtain ⟨hE0, hE1, hE2, hE3, hE4, hE5, hE6, hF0, hF1, hF2, hF3, hF4, hF5, hF6⟩ := cells7 BK773.out; obtain ⟨hG0, hG1, hG2, hG3, hG4, hG5, hG6, hH0, hH1, hH2, hH3, hH4, hH5, hH6⟩ := cells7 BK774.out))) | ((with_reducible refine gc 120 rfl ?_); refine gl (some 66) #[.int .i64 a0_0] Tryd.func120 ?_; (with_reducible refine (expr_two.calls a0_0 false _ A72.out).mono ?_); rintro e w' ⟨rfl, ⟨nd, rfl⟩⟩; refine ⟨_, rfl, ?_⟩; (try (obtain ⟨hE0, hE1, hE2, hE3, hE4, hE5, hE6, hF0, hF1, hF2, hF3, hF4, hF5, hF6⟩ := cells7 BK773.out; obtain ⟨hG0, hG1, hG2, hG3, hG4, hG5, hG6, hH0, hH1, hH2, hH3, hH4, hH5, hH6⟩ := cells7 BK774.out))))
   go_ret
   exact ⟨qR, qB⟩
end Go.Proofs.YtbngfhlciebeeaaDoor.L
end
