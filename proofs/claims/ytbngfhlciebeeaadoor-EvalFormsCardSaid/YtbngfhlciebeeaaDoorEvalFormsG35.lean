/- Printed and hand-written steps towards the row (EvalForms), those that it reaches. -/
import Derived.Test.YtbngfhlciebeeaaDoorEvalFormsG4
import Derived.Test.YtbngfhlciebeeaaDoorEvalFormsG5
import Derived.Test.YtbngfhlciebeeaaDoorEvalFormsG21
import Derived.Test.YtbngfhlciebeeaaDoorEvalFormsLxf98
import Derived.Test.YtbngfhlciebeeaaDoorEvalFormsG33
section
namespace Go.Proofs.YtbngfhlciebeeaaDoor.L
open Go.RowKit Go.Proofs.YtbngfhlciebeeaaDoorW.PrintWords Go.Proofs.YtbngfhlciebeeaaDoorW.PrintLast Go.Proofs.YtbngfhlciebeeaaDoorW.PrintMore
attribute [local go_sem] max2_int min2_int max_two min_two max_three min_three max_four min_four   -- for this text's walks alone
set_option linter.unusedVariables false
set_option linter.unusedSimpArgs false
def eval_Eval.f (k : Nat) (l0 : List (S156)) (l1_0 : List (S116)) (l1_1 : List ByteArray) : Option (Int × Int × ByteArray × Int) := (expr_Expr_Right.f k l0).bind fun t1140 => (if t1140 = true then ((eval_machine_node.f k l1_0 l1_1 l0 (wrap64 ((l0.length : Int) - 1))).bind fun bt1141 => (some (bt1141.1, bt1141.2.1, bt1141.2.2.1, bt1141.2.2.2))) else (some (0, 0, (⟨#[]⟩ : ByteArray), 11)))
set_option maxHeartbeats 8000000 in
set_option maxRecDepth 100000 in
theorem eval_Eval.calls (k : Nat) (A0 : Option Addr) (c0 : Nat) (l0 : List (S156)) (A1_0 : Option Addr) (c1_0 : Nat) (l1_0 : List (S116)) (A1_1 : Option Addr) (c1_1 : Nat) (l1_1 : List ByteArray) (r1 : Int) (r2 : Int) (r3 : ByteArray) (r4 : Int) (w : World) (hr0 : Kd.C k156 w A0 l0.length l0) (hc0 : l0.length ≤ c0) (hr1_0 : Kd.C k116 w A1_0 l1_0.length l1_0) (hc1_0 : l1_0.length ≤ c1_0) (hr1_1 : Kd.C Kd.string w A1_1 l1_1.length l1_1) (hc1_1 : l1_1.length ≤ c1_1) (hL : Laid w) (h : eval_Eval.f k l0 l1_0 l1_1 = some (r1, r2, r3, r4)) :
  Calls Tryd.prog 61 #[.slice A0 l0.length c0, .agg #[.slice A1_0 l1_0.length c1_0, .slice A1_1 l1_1.length c1_1]] w fun e w' => e = .returned (.tuple #[.agg #[.int .i64 r1, .int .i64 r2, .string r3], .int .i64 r4]) ∧ Below w.heap.size w w' := by
 have hu98 := Tryd.underlying98
 have hu103 := Tryd.underlying103
 have hu168 := Tryd.underlying168
 have HR0 := Aside0.mk hr0
 have HC0 := Aside0.mk hc0
 clear hr0 hc0
 have HR1_0 := Aside0.mk hr1_0
 have HC1_0 := Aside0.mk hc1_0
 clear hr1_0 hc1_0
 have HR1_1 := Aside0.mk hr1_1
 have HC1_1 := Aside0.mk hc1_1
 clear hr1_1 hc1_1
 have HB := Aside0.mk (Below.refl w.heap.size w)
 have HLD := Aside0.mk hL
 clear hL
 have H : ((expr_Expr_Right.f k l0).bind fun t1140 => (if t1140 = true then ((eval_machine_node.f k l1_0 l1_1 l0 (wrap64 ((l0.length : Int) - 1))).bind fun bt1141 => (some (bt1141.1, bt1141.2.1, bt1141.2.2.1, bt1141.2.2.2))) else (some (0, 0, (⟨#[]⟩ : ByteArray), 11)))) = some (r1, r2, r3, r4) := h
 clear h
 replace H := Option.bind_eq_some_iff.mp H
 obtain ⟨t1140, A30, H⟩ := H
 (try dsimp -simprocs only at H)
 have A3 := Aside0.mk A30
 clear A30
 by_cases c4 : t1140 = true
 ·subst c4
  rw [if_pos rfl] at H
  replace H := Option.bind_eq_some_iff.mp H
  obtain ⟨⟨t1141, t1142, t1143, t1144⟩, A50, H⟩ := H
  (try dsimp -simprocs only at H)
  have A5 := Aside0.mk A50
  clear A50
  simp only [Option.some.injEq, Prod.mk.injEq] at H
  obtain ⟨rfl, rfl, rfl, rfl⟩ := H
  go_enter Tryd.func61, Tryd.ntmps61
  go_wp2_with (first | ((with_reducible refine gd 3 rfl ?_); refine bx 3 #[.slice A1_0 l1_0.length c1_0, .slice A1_1 l1_1.length c1_1] 98 ?_; intro gb1138 hg w6 hbox hb; have BK1138 := Aside0.mk (hbox); have GW1138 := geS hg; have GE1138 := geS hg; replace HB := bst hb; clear hb hbox hg) | ((with_reducible refine gd 4 rfl ?_); refine bx 4 #[.int .i64 0, .int .i64 0, .string (⟨#[]⟩ : ByteArray)] 103 ?_; intro gb1139 hg w7 hbox hb; have BK1139 := Aside0.mk (hbox); have GW1139 := geS hg; have GE1139 := geS hg; have NB1138_1139 := neS gb1138 hg; have NB1139_1138 := neT gb1138 hg; replace BK1138 := kb gb1138 hb; replace HB := bst hb; clear hb hbox hg) | ((with_reducible refine gc 58 rfl ?_); refine gl (some 7) #[.slice A0 l0.length c0] Tryd.func58 ?_; (with_reducible refine (expr_Expr_Right.calls k _ _ l0 true _ ?side1 ?side2 ?side3 A3.out).mono ?_); (case side1 => exact qC); (case side2 => exact HC0.out); (case side3 => exact Laid.below HLD.out qB); rintro e w8 ⟨rfl, hb⟩; refine ⟨_, rfl, ?_⟩; replace BK1138 := kb gb1138 hb; replace BK1139 := kb gb1139 hb; replace HB := bst hb; (try clear hb); have hnb9 := NB1138_1139.out; have hnc9 := NB1139_1138.out; obtain ⟨hcz10_0, hcz10_1, hfz10_0, hfz10_1⟩ := cells2 BK1138.out) | ((with_reducible refine gc 98 rfl ?_); refine gl (some 16) #[.agg #[.slice A1_0 l1_0.length c1_0, .slice A1_1 l1_1.length c1_1, .slice A0 l0.length c0], .int .i64 (wrap64 ((l0.length : Int) - 1))] Tryd.func98 ?_; (with_reducible refine (eval_machine_node.calls k _ _ l1_0 _ _ l1_1 _ _ l0 (wrap64 ((l0.length : Int) - 1)) t1141 t1142 t1143 t1144 _ ?side1 ?side2 ?side3 ?side4 ?side5 ?side6 A5.out).mono ?_); (case side1 => exact qC); (case side2 => exact HC1_0.out); (case side3 => exact qC); (case side4 => exact HC1_1.out); (case side5 => exact qC); (case side6 => exact HC0.out); rintro e w11 ⟨rfl, hb⟩; refine ⟨_, rfl, ?_⟩; replace BK1138 := kb gb1138 hb; replace BK1139 := kb gb1139 hb; replace HB := bst hb; (try clear hb); obtain ⟨hcz12_0, hcz12_1, hcz12_2, hfz12_0, hfz12_1, hfz12_2⟩ := cells3 BK1139.out))
  refine bodyPost_ret (results_ct rfl _ _ gb1139 103 #[.int .i64 t1141, .int .i64 t1142, .string t1143] (0, 0) _ rfl qP Tryd.underlying103 rfl (by kernel_rfl)) rfl ?_
  exact ⟨qR, qB⟩
 ·replace c4 := Bool.eq_false_iff.mpr c4
  subst c4
  rw [if_neg (show ¬ (false = true) by decide)] at H
  simp only [Option.some.injEq, Prod.mk.injEq] at H
  obtain ⟨rfl, rfl, rfl, rfl⟩ := H
  go_enter Tryd.func61, Tryd.ntmps61
  go_wp2_with (first | ((with_reducible refine gd 3 rfl ?_); refine bx 3 #[.slice A1_0 l1_0.length c1_0, .slice A1_1 l1_1.length c1_1] 98 ?_; intro gb1138 hg w13 hbox hb; have BK1138 := Aside0.mk (hbox); have GW1138 := geS hg; have GE1138 := geS hg; replace HB := bst hb; clear hb hbox hg) | ((with_reducible refine gd 4 rfl ?_); refine bx 4 #[.int .i64 0, .int .i64 0, .string (⟨#[]⟩ : ByteArray)] 103 ?_; intro gb1139 hg w14 hbox hb; have BK1139 := Aside0.mk (hbox); have GW1139 := geS hg; have GE1139 := geS hg; have NB1138_1139 := neS gb1138 hg; have NB1139_1138 := neT gb1138 hg; replace BK1138 := kb gb1138 hb; replace HB := bst hb; clear hb hbox hg) | ((with_reducible refine gc 58 rfl ?_); refine gl (some 7) #[.slice A0 l0.length c0] Tryd.func58 ?_; (with_reducible refine (expr_Expr_Right.calls k _ _ l0 false _ ?side1 ?side2 ?side3 A3.out).mono ?_); (case side1 => exact qC); (case side2 => exact HC0.out); (case side3 => exact Laid.below HLD.out qB); rintro e w15 ⟨rfl, hb⟩; refine ⟨_, rfl, ?_⟩; replace BK1138 := kb gb1138 hb; replace BK1139 := kb gb1139 hb; replace HB := bst hb; (try clear hb); have hnb16 := NB1139_1138.out; have hnc16 := NB1138_1139.out; obtain ⟨hcz17_0, hcz17_1, hcz17_2, hfz17_0, hfz17_1, hfz17_2⟩ := cells3 BK1139.out))
  refine bodyPost_ret (results_ct rfl _ _ gb1139 103 #[.int .i64 0, .int .i64 0, .string (⟨#[]⟩ : ByteArray)] (0, 0) _ rfl qP Tryd.underlying103 rfl (by kernel_rfl)) rfl ?_
  exact ⟨qR, qB⟩
end Go.Proofs.YtbngfhlciebeeaaDoor.L
end
section
namespace Go.Proofs.YtbngfhlciebeeaaDoor.L
open Go.RowKit Go.Proofs.YtbngfhlciebeeaaDoorW.PrintWords Go.Proofs.YtbngfhlciebeeaaDoorW.PrintLast Go.Proofs.YtbngfhlciebeeaaDoorW.PrintMore
attribute [local go_sem] max2_int min2_int max_two min_two max_three min_three max_four min_four   -- for this text's walks alone
set_option linter.unusedVariables false
set_option linter.unusedSimpArgs false
def eval_Holds.f (k : Nat) (l0 : List (S156)) (l1_0 : List (S116)) (l1_1 : List ByteArray) : Option (Bool × Int) := (eval_Eval.f k l0 l1_0 l1_1).bind fun bt1146 => (if bt1146.2.2.2 = 0 then (if bt1146.1 = 2 then ((val_Value_Yes.f bt1146.1 bt1146.2.1 bt1146.2.2.1).bind fun t1151 => (some (t1151, 0))) else (some (false, 20))) else (some (false, bt1146.2.2.2)))
set_option maxHeartbeats 8000000 in
set_option maxRecDepth 100000 in
theorem eval_Holds.calls (k : Nat) (A0 : Option Addr) (c0 : Nat) (l0 : List (S156)) (A1_0 : Option Addr) (c1_0 : Nat) (l1_0 : List (S116)) (A1_1 : Option Addr) (c1_1 : Nat) (l1_1 : List ByteArray) (r1 : Bool) (r2 : Int) (w : World) (hr0 : Kd.C k156 w A0 l0.length l0) (hc0 : l0.length ≤ c0) (hr1_0 : Kd.C k116 w A1_0 l1_0.length l1_0) (hc1_0 : l1_0.length ≤ c1_0) (hr1_1 : Kd.C Kd.string w A1_1 l1_1.length l1_1) (hc1_1 : l1_1.length ≤ c1_1) (hL : Laid w) (h : eval_Holds.f k l0 l1_0 l1_1 = some (r1, r2)) :
  Calls Tryd.prog 64 #[.slice A0 l0.length c0, .agg #[.slice A1_0 l1_0.length c1_0, .slice A1_1 l1_1.length c1_1]] w fun e w' => e = .returned (.tuple #[.bool r1, .int .i64 r2]) ∧ Below w.heap.size w w' := by
 have hu98 := Tryd.underlying98
 have hu103 := Tryd.underlying103
 have HR0 := Aside0.mk hr0
 have HC0 := Aside0.mk hc0
 clear hr0 hc0
 have HR1_0 := Aside0.mk hr1_0
 have HC1_0 := Aside0.mk hc1_0
 clear hr1_0 hc1_0
 have HR1_1 := Aside0.mk hr1_1
 have HC1_1 := Aside0.mk hc1_1
 clear hr1_1 hc1_1
 have HB := Aside0.mk (Below.refl w.heap.size w)
 have HLD := Aside0.mk hL
 clear hL
 have H : ((eval_Eval.f k l0 l1_0 l1_1).bind fun bt1146 => (if bt1146.2.2.2 = 0 then (if bt1146.1 = 2 then ((val_Value_Yes.f bt1146.1 bt1146.2.1 bt1146.2.2.1).bind fun t1151 => (some (t1151, 0))) else (some (false, 20))) else (some (false, bt1146.2.2.2)))) = some (r1, r2) := h
 clear h
 replace H := Option.bind_eq_some_iff.mp H
 obtain ⟨⟨t1146, t1147, t1148, t1149⟩, A30, H⟩ := H
 (try dsimp -simprocs only at H)
 have A3 := Aside0.mk A30
 clear A30
 by_cases c4 : t1149 = 0
 ·rw [if_pos c4] at H
  have c4b0 := beq_iff_eq.mpr c4
  have c4b1 := bne_eq_false_iff_eq.mpr c4
  clear c4
  by_cases c5 : t1146 = 2
  ·rw [if_pos c5] at H
   have c5b0 := beq_iff_eq.mpr c5
   have c5b1 := bne_eq_false_iff_eq.mpr c5
   clear c5
   replace H := Option.bind_eq_some_iff.mp H
   obtain ⟨t1151, A60, H⟩ := H
   (try dsimp -simprocs only at H)
   have A6 := Aside0.mk A60
   clear A60
   simp only [Option.some.injEq, Prod.mk.injEq] at H
   obtain ⟨rfl, rfl⟩ := H
   go_enter Tryd.func64, Tryd.ntmps64
   go_wp2_with (first | ((with_reducible refine gd 3 rfl ?_); refine bx 3 #[.slice A1_0 l1_0.length c1_0, .slice A1_1 l1_1.length c1_1] 98 ?_; intro gb1145 hg w7 hbox hb; have BK1145 := Aside0.mk (hbox); have GW1145 := geS hg; have GE1145 := geS hg; replace HB := bst hb; clear hb hbox hg; obtain ⟨hcz8_0, hcz8_1, hfz8_0, hfz8_1⟩ := cells2 BK1145.out) | ((with_reducible refine gc 61 rfl ?_); refine gl (some 11) #[.slice A0 l0.length c0, .agg #[.slice A1_0 l1_0.length c1_0, .slice A1_1 l1_1.length c1_1]] Tryd.func61 ?_; (with_reducible refine (eval_Eval.calls k _ _ l0 _ _ l1_0 _ _ l1_1 t1146 t1147 t1148 t1149 _ ?side1 ?side2 ?side3 ?side4 ?side5 ?side6 ?side7 A3.out).mono ?_); (case side1 => exact qC); (case side2 => exact HC0.out); (case side3 => exact qC); (case side4 => exact HC1_0.out); (case side5 => exact qC); (case side6 => exact HC1_1.out); (case side7 => exact Laid.below HLD.out qB); rintro e w9 ⟨rfl, hb⟩; refine ⟨_, rfl, ?_⟩; replace BK1145 := kb gb1145 hb; replace HB := bst hb; (try clear hb)) | ((with_reducible refine gd 6 rfl ?_); refine bx 6 #[.int .i64 0, .int .i64 0, .string (⟨#[]⟩ : ByteArray)] 103 ?_; intro gb1150 hg w10 hbox hb; have BK1150 := Aside0.mk (hbox); have GW1150 := geS hg; have GE1150 := geS hg; have NB1145_1150 := neS gb1145 hg; have NB1150_1145 := neT gb1145 hg; replace BK1145 := kb gb1145 hb; replace HB := bst hb; clear hb hbox hg; have hnb11 := NB1150_1145.out; have hnc11 := NB1145_1150.out; obtain ⟨hcz12_0, hcz12_1, hcz12_2, hfz12_0, hfz12_1, hfz12_2⟩ := cells3 BK1150.out) | ((with_reducible refine gc 100 rfl ?_); refine gl (some 23) #[.agg #[.int .i64 t1146, .int .i64 t1147, .string t1148]] Tryd.func100 ?_; (with_reducible refine (val_Value_Yes.calls t1146 t1147 t1148 t1151 _ A6.out).mono ?_); rintro e w13 ⟨rfl, hb⟩; refine ⟨_, rfl, ?_⟩; replace BK1145 := kb gb1145 hb; replace BK1150 := kp gb1150 (.cells #[.int .i64 t1146, .int .i64 t1147, .string t1148] 103 (0, 0)) hb; replace HB := bst hb; (try clear hb)))
   go_ret2
   exact ⟨qR, qB⟩
  ·rw [if_neg c5] at H
   have c5b0 := beq_eq_false_iff_ne.mpr c5
   have c5b1 := bne_iff_ne.mpr c5
   simp only [Option.some.injEq, Prod.mk.injEq] at H
   obtain ⟨rfl, rfl⟩ := H
   go_enter Tryd.func64, Tryd.ntmps64
   go_wp2_with (first | ((with_reducible refine gd 3 rfl ?_); refine bx 3 #[.slice A1_0 l1_0.length c1_0, .slice A1_1 l1_1.length c1_1] 98 ?_; intro gb1145 hg w14 hbox hb; have BK1145 := Aside0.mk (hbox); have GW1145 := geS hg; have GE1145 := geS hg; replace HB := bst hb; clear hb hbox hg; obtain ⟨hcz15_0, hcz15_1, hfz15_0, hfz15_1⟩ := cells2 BK1145.out) | ((with_reducible refine gc 61 rfl ?_); refine gl (some 11) #[.slice A0 l0.length c0, .agg #[.slice A1_0 l1_0.length c1_0, .slice A1_1 l1_1.length c1_1]] Tryd.func61 ?_; (with_reducible refine (eval_Eval.calls k _ _ l0 _ _ l1_0 _ _ l1_1 t1146 t1147 t1148 t1149 _ ?side1 ?side2 ?side3 ?side4 ?side5 ?side6 ?side7 A3.out).mono ?_); (case side1 => exact qC); (case side2 => exact HC0.out); (case side3 => exact qC); (case side4 => exact HC1_0.out); (case side5 => exact qC); (case side6 => exact HC1_1.out); (case side7 => exact Laid.below HLD.out qB); rintro e w16 ⟨rfl, hb⟩; refine ⟨_, rfl, ?_⟩; replace BK1145 := kb gb1145 hb; replace HB := bst hb; (try clear hb)) | ((with_reducible refine gd 6 rfl ?_); refine bx 6 #[.int .i64 0, .int .i64 0, .string (⟨#[]⟩ : ByteArray)] 103 ?_; intro gb1150 hg w17 hbox hb; have BK1150 := Aside0.mk (hbox); have GW1150 := geS hg; have GE1150 := geS hg; have NB1145_1150 := neS gb1145 hg; have NB1150_1145 := neT gb1145 hg; replace BK1145 := kb gb1145 hb; replace HB := bst hb; clear hb hbox hg; have hnb18 := NB1150_1145.out; have hnc18 := NB1145_1150.out; obtain ⟨hcz19_0, hcz19_1, hcz19_2, hfz19_0, hfz19_1, hfz19_2⟩ := cells3 BK1150.out))
   go_ret2
   exact ⟨qR, qB⟩
 ·rw [if_neg c4] at H
  have c4b0 := beq_eq_false_iff_ne.mpr c4
  have c4b1 := bne_iff_ne.mpr c4
  simp only [Option.some.injEq, Prod.mk.injEq] at H
  obtain ⟨rfl, rfl⟩ := H
  go_enter Tryd.func64, Tryd.ntmps64
  go_wp2_with (first | ((with_reducible refine gd 3 rfl ?_); refine bx 3 #[.slice A1_0 l1_0.length c1_0, .slice A1_1 l1_1.length c1_1] 98 ?_; intro gb1145 hg w20 hbox hb; have BK1145 := Aside0.mk (hbox); have GW1145 := geS hg; have GE1145 := geS hg; replace HB := bst hb; clear hb hbox hg; obtain ⟨hcz21_0, hcz21_1, hfz21_0, hfz21_1⟩ := cells2 BK1145.out) | ((with_reducible refine gc 61 rfl ?_); refine gl (some 11) #[.slice A0 l0.length c0, .agg #[.slice A1_0 l1_0.length c1_0, .slice A1_1 l1_1.length c1_1]] Tryd.func61 ?_; (with_reducible refine (eval_Eval.calls k _ _ l0 _ _ l1_0 _ _ l1_1 t1146 t1147 t1148 t1149 _ ?side1 ?side2 ?side3 ?side4 ?side5 ?side6 ?side7 A3.out).mono ?_); (case side1 => exact qC); (case side2 => exact HC0.out); (case side3 => exact qC); (case side4 => exact HC1_0.out); (case side5 => exact qC); (case side6 => exact HC1_1.out); (case side7 => exact Laid.below HLD.out qB); rintro e w22 ⟨rfl, hb⟩; refine ⟨_, rfl, ?_⟩; replace BK1145 := kb gb1145 hb; replace HB := bst hb; (try clear hb)) | ((with_reducible refine gd 6 rfl ?_); refine bx 6 #[.int .i64 0, .int .i64 0, .string (⟨#[]⟩ : ByteArray)] 103 ?_; intro gb1150 hg w23 hbox hb; have BK1150 := Aside0.mk (hbox); have GW1150 := geS hg; have GE1150 := geS hg; have NB1145_1150 := neS gb1145 hg; have NB1150_1145 := neT gb1145 hg; replace BK1145 := kb gb1145 hb; replace HB := bst hb; clear hb hbox hg; have hnb24 := NB1150_1145.out; have hnc24 := NB1145_1150.out; obtain ⟨hcz25_0, hcz25_1, hcz25_2, hfz25_0, hfz25_1, hfz25_2⟩ := cells3 BK1150.out))
  go_ret2
  exact ⟨qR, qB⟩
end Go.Proofs.YtbngfhlciebeeaaDoor.L
end
