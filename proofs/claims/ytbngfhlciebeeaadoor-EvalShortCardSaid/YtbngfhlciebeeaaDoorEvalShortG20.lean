/- Printed and hand-written steps towards the row (EvalShort), those that it reaches. -/
import Derived.Test.YtbngfhlciebeeaaDoorEvalShortG3
import Derived.Test.YtbngfhlciebeeaaDoorEvalShortG4
import Derived.Test.YtbngfhlciebeeaaDoorEvalShortG18
import Derived.Test.YtbngfhlciebeeaaDoorEvalShortG19
import Derived.Test.YtbngfhlciebeeaaDoorEvalShortG12
import Derived.Test.YtbngfhlciebeeaaDoorEvalShortG15
import Derived.Test.YtbngfhlciebeeaaDoorEvalShortG8
section
namespace Go.Proofs.YtbngfhlciebeeaaDoor.L
open Go.RowKit Go.Proofs.YtbngfhlciebeeaaDoorW.PrintWords Go.Proofs.YtbngfhlciebeeaaDoorW.PrintLast Go.Proofs.YtbngfhlciebeeaaDoorW.PrintMore
attribute [local go_sem] max2_int min2_int max_two min_two max_three min_three max_four min_four   -- for this text's walks alone
set_option linter.unusedVariables false
set_option linter.unusedSimpArgs false
def eval_Holds.f (k : Nat) (l0 : List (S156)) (l1_0 : List (S116)) (l1_1 : List ByteArray) : Option (Bool × Int) := (eval_Eval.f k l0 l1_0 l1_1).bind fun bt1146 => (if bt1146.2.2.2 = 0 then (if bt1146.1 = 2 then ((val_Value_Yes.f bt1146.1 bt1146.2.1 bt1146.2.2.1).bind fun t1151 => (some (t1151, 0))) else (some (false, 20))) else (some (false, bt1146.2.2.2)))
set_option maxHeartbeats 8000000 in
set_option maxRecDepth 100000 in
theorem eval_Holds.calls (k : Nat) (A0 : Option Addr) (c0 : Nat) (l0 : List (S156)) (A1_0 : Option Addr) (c1_0 : Nat) (l1_0 : List (S116)) (A1_1 : Option Addr) (c1_1 : Nat) (l1_1 : List ByteArray) (r1 : Bool) (r2 : Int) (w : World) (hr0 : Kd.C k156 w A0 l0.length l0) (hc0 : l0.length ≤ c0) (hr1_0 : Kd.C k116 w A1_0 l1_0.length l1_0) (hc1_0 : l1_0.length ≤ c1_0) (hr1_1 : Kd.C Kd.string w A1_1 l1_1.length l1_1) (hc1_1 : l1_1.length ≤ c1_1) (hL : Laid w) (h : eval_Holds.f k l0 l1_0 l1_1 = some (r1, r2)) :
  Calls Tryd.prog 64 #[.slice A0 l0.length c0, .agg #[.slice A1_0 l1_0.length c1_0, .slice A1_1 l1_1.length c1_1]] w fun e w' => e = .returned (.tuple #[.bool r1, .int .i64 r2]) ∧ Below w.heap.size w w' := by
 have hu98 := Tryd.underlying98
 have hu103 := Tryd.underlying103
 have HR0 := Aside0.mk hr0
 have HC0 := Aside0.mk hc0
 clear hr0 hc0
 have HR1_0 := Aside0.mk hr1_0
 have HC1_0 := Aside0.mk hc1_0
 clear hr1_0 hc1_0
 have HR1_1 := Aside0.mk hr1_1
 have HC1_1 := Aside0.mk hc1_1
 clear hr1_1 hc1_1
 have HB := Aside0.mk (Below.refl w.heap.size w)
 have HLD := Aside0.mk hL
 clear hL
 have H : ((eval_Eval.f k l0 l1_0 l1_1).bind fun bt1146 => (if bt1146.2.2.2 = 0 then (if bt1146.1 = 2 then ((val_Value_Yes.f bt1146.1 bt1146.2.1 bt1146.2.2.1).bind fun t1151 => (some (t1151, 0))) else (some (false, 20))) else (some (false, bt1146.2.2.2)))) = some (r1, r2) := h
 clear h
 replace H := Option.bind_eq_some_iff.mp H
 obtain ⟨⟨t1146, t1147, t1148, t1149⟩, A30, H⟩ := H
 (try dsimp -simprocs only at H)
 have A3 := Aside0.mk A30
 clear A30
 by_cases c4 : t1149 = 0
 ·rw [if_pos c4] at H
  have c4b0 := beq_iff_eq.mpr c4
  have c4b1 := bne_eq_false_iff_eq.mpr c4
  clear c4
  by_cases c5 : t1146 = 2
  ·rw [if_pos c5] at H
   have c5b0 := beq_iff_eq.mpr c5
   have c5b1 := bne_eq_false_iff_eq.mpr c5
   clear c5
   replace H := Option.bind_eq_some_iff.mp H
   obtain ⟨t1151, A60, H⟩ := H
   (try dsimp -simprocs only at H)
   have A6 := Aside0.mk A60
   clear A60
   simp only [Option.some.injEq, Prod.mk.injEq] at H
   obtain ⟨rfl, rfl⟩ := H
   go_enter Tryd.func64, Tryd.ntmps64
   go_wp2_with (first | ((with_reducible refine gd 3 rfl ?_); refine bxx 3 #[.slice A1_0 l1_0.length c1_0, .slice A1_1 l1_1.length c1_1] 98 ?_; intro gb1145 w7 BK1145 GW1145 HB; obtain ⟨_, _, _, _⟩ := cells2 BK1145.out) | ((with_reducible refine gc 61 rfl ?_); refine gl (some 11) #[.slice A0 l0.length c0, .agg #[.slice A1_0 l1_0.length c1_0, .slice A1_1 l1_1.length c1_1]] Tryd.func61 ?_; (with_reducible refine (eval_Eval.calls k _ _ l0 _ _ l1_0 _ _ l1_1 t1146 t1147 t1148 t1149 _ ?side1 ?side2 ?side3 ?side4 ?side5 ?side6 ?side7 A3.out).mono ?_); (case side1 => exact qC); (case side2 => exact HC0.out); (case side3 => exact qC); (case side4 => exact HC1_0.out); (case side5 => exact qC); (case side6 => exact HC1_1.out); (case side7 => exact Laid.below HLD.out qB); rintro e w9 ⟨rfl, hb⟩; refine ⟨_, rfl, ?_⟩; replace BK1145 := kb gb1145 hb; replace HB := bst hb; (try clear hb)) | ((with_reducible refine gd 6 rfl ?_); refine bx 6 #[.int .i64 0, .int .i64 0, .string (⟨#[]⟩ : ByteArray)] 103 ?_; intro gb1150 hg w10 hbox hb; have BK1150 := Aside0.mk (hbox); have GW1150 := geS hg; have GE1150 := geS hg; have NB1145_1150 := neS gb1145 hg; have NB1150_1145 := neT gb1145 hg; replace BK1145 := kb gb1145 hb; replace HB := bst hb; clear hb hbox hg; have := NB1150_1145.out; have := NB1145_1150.out; obtain ⟨_, _, _, _, _, _⟩ := cells3 BK1150.out) | ((with_reducible refine gc 100 rfl ?_); refine gl (some 23) #[.agg #[.int .i64 t1146, .int .i64 t1147, .string t1148]] Tryd.func100 ?_; (with_reducible refine (val_Value_Yes.calls t1146 t1147 t1148 t1151 _ A6.out).mono ?_); rintro e w13 ⟨rfl, hb⟩; refine ⟨_, rfl, ?_⟩; replace BK1145 := kb gb1145 hb; replace BK1150 := kp gb1150 (.cells #[.int .i64 t1146, .int .i64 t1147, .string t1148] 103 (0, 0)) hb; replace HB := bst hb; (try clear hb)))
   go_ret2
   exact ⟨qR, qB⟩
  rw [if_neg c5] at H
  have c5b0 := beq_eq_false_iff_ne.mpr c5
  have c5b1 := bne_iff_ne.mpr c5
  simp only [Option.some.injEq, Prod.mk.injEq] at H
  obtain ⟨rfl, rfl⟩ := H
  go_enter Tryd.func64, Tryd.ntmps64
  go_wp2_with (first | ((with_reducible refine gd 3 rfl ?_); refine bxx 3 #[.slice A1_0 l1_0.length c1_0, .slice A1_1 l1_1.length c1_1] 98 ?_; intro gb1145 w14 BK1145 GW1145 HB; obtain ⟨_, _, _, _⟩ := cells2 BK1145.out) | ((with_reducible refine gc 61 rfl ?_); refine gl (some 11) #[.slice A0 l0.length c0, .agg #[.slice A1_0 l1_0.length c1_0, .slice A1_1 l1_1.length c1_1]] Tryd.func61 ?_; (with_reducible refine (eval_Eval.calls k _ _ l0 _ _ l1_0 _ _ l1_1 t1146 t1147 t1148 t1149 _ ?side1 ?side2 ?side3 ?side4 ?side5 ?side6 ?side7 A3.out).mono ?_); (case side1 => exact qC); (case side2 => exact HC0.out); (case side3 => exact qC); (case side4 => exact HC1_0.out); (case side5 => exact qC); (case side6 => exact HC1_1.out); (case side7 => exact Laid.below HLD.out qB); rintro e w16 ⟨rfl, hb⟩; refine ⟨_, rfl, ?_⟩; replace BK1145 := kb gb1145 hb; replace HB := bst hb; (try clear hb)) | ((with_reducible refine gd 6 rfl ?_); refine bx 6 #[.int .i64 0, .int .i64 0, .string (⟨#[]⟩ : ByteArray)] 103 ?_; intro gb1150 hg w17 hbox hb; have BK1150 := Aside0.mk (hbox); have GW1150 := geS hg; have GE1150 := geS hg; have NB1145_1150 := neS gb1145 hg; have NB1150_1145 := neT gb1145 hg; replace BK1145 := kb gb1145 hb; replace HB := bst hb; clear hb hbox hg; have := NB1150_1145.out; have := NB1145_1150.out; obtain ⟨_, _, _, _, _, _⟩ := cells3 BK1150.out))
  go_ret2
  exact ⟨qR, qB⟩
 rw [if_neg c4] at H
 have c4b0 := beq_eq_false_iff_ne.mpr c4
 have c4b1 := bne_iff_ne.mpr c4
 simp only [Option.some.injEq, Prod.mk.injEq] at H
 obtain ⟨rfl, rfl⟩ := H
 go_enter Tryd.func64, Tryd.ntmps64
 go_wp2_with (first | ((with_reducible refine gd 3 rfl ?_); refine bxx 3 #[.slice A1_0 l1_0.length c1_0, .slice A1_1 l1_1.length c1_1] 98 ?_; intro gb1145 w20 BK1145 GW1145 HB; obtain ⟨_, _, _, _⟩ := cells2 BK1145.out) | ((with_reducible refine gc 61 rfl ?_); refine gl (some 11) #[.slice A0 l0.length c0, .agg #[.slice A1_0 l1_0.length c1_0, .slice A1_1 l1_1.length c1_1]] Tryd.func61 ?_; (with_reducible refine (eval_Eval.calls k _ _ l0 _ _ l1_0 _ _ l1_1 t1146 t1147 t1148 t1149 _ ?side1 ?side2 ?side3 ?side4 ?side5 ?side6 ?side7 A3.out).mono ?_); (case side1 => exact qC); (case side2 => exact HC0.out); (case side3 => exact qC); (case side4 => exact HC1_0.out); (case side5 => exact qC); (case side6 => exact HC1_1.out); (case side7 => exact Laid.below HLD.out qB); rintro e w22 ⟨rfl, hb⟩; refine ⟨_, rfl, ?_⟩; replace BK1145 := kb gb1145 hb; replace HB := bst hb; (try clear hb)) | ((with_reducible refine gd 6 rfl ?_); refine bx 6 #[.int .i64 0, .int .i64 0, .string (⟨#[]⟩ : ByteArray)] 103 ?_; intro gb1150 hg w23 hbox hb; have BK1150 := Aside0.mk (hbox); have GW1150 := geS hg; have GE1150 := geS hg; have NB1145_1150 := neS gb1145 hg; have NB1150_1145 := neT gb1145 hg; replace BK1145 := kb gb1145 hb; replace HB := bst hb; clear hb hbox hg; have := NB1150_1145.out; have := NB1145_1150.out; obtain ⟨_, _, _, _, _, _⟩ := cells3 BK1150.out))
 go_ret2
 exact ⟨qR, qB⟩
def whirligiglaw05_anchor.f (k : Nat)  : Option (Bool) := (val_Of.f 0).bind fun bt1152 => ((some (([(⟨(⟨#[120]⟩ : ByteArray), (⟨bt1152.1, bt1152.2.1, bt1152.2.2⟩ : S103)⟩ : S116)] : List (S116)) : List (S116))).bind fun y1155 => ((expr_Read.f k (⟨#[120, 32, 33, 61, 32, 48, 32, 97, 110, 100, 32, 49, 48, 32, 47, 32, 120, 32, 62, 32, 50]⟩ : ByteArray)).bind fun bt1159 => ((expr_Read.f k (⟨#[49, 48, 32, 47, 32, 120]⟩ : ByteArray)).bind fun bt1163 => ((eval_Holds.f k bt1159.1 y1155 ([] : List ByteArray)).bind fun bt1167 => ((eval_Eval.f k bt1163.1 y1155 ([] : List ByteArray)).bind fun bt1169 => (if bt1159.2 = 0 then (if bt1163.2 = 0 then (if bt1167.2 = 0 then (if bt1167.1 = true then (some false) else (some (bt1169.2.2.2 == 22))) else (some false)) else (some false)) else (some false)))))))
set_option maxHeartbeats 8000000 in
set_option maxRecDepth 100000 in
theorem whirligiglaw05_anchor.calls (k : Nat)  (r : Bool) (w : World) (hL : Laid w) (h : whirligiglaw05_anchor.f k  = some r) :
  Calls Tryd.prog 59 #[] w fun e w' => e = .returned (.bool r) ∧ Below w.heap.size w w' := by
 have hu116 := Tryd.underlying116
 have hu98 := Tryd.underlying98
 have hu103 := Tryd.underlying103
 have HB := Aside0.mk (Below.refl w.heap.size w)
 have HLD := Aside0.mk hL
 clear hL
 have H : ((val_Of.f 0).bind fun bt1152 => ((some (([(⟨(⟨#[120]⟩ : ByteArray), (⟨bt1152.1, bt1152.2.1, bt1152.2.2⟩ : S103)⟩ : S116)] : List (S116)) : List (S116))).bind fun y1155 => ((expr_Read.f k (⟨#[120, 32, 33, 61, 32, 48, 32, 97, 110, 100, 32, 49, 48, 32, 47, 32, 120, 32, 62, 32, 50]⟩ : ByteArray)).bind fun bt1159 => ((expr_Read.f k (⟨#[49, 48, 32, 47, 32, 120]⟩ : ByteArray)).bind fun bt1163 => ((eval_Holds.f k bt1159.1 y1155 ([] : List ByteArray)).bind fun bt1167 => ((eval_Eval.f k bt1163.1 y1155 ([] : List ByteArray)).bind fun bt1169 => (if bt1159.2 = 0 then (if bt1163.2 = 0 then (if bt1167.2 = 0 then (if bt1167.1 = true then (some false) else (some (bt1169.2.2.2 == 22))) else (some false)) else (some false)) else (some false)))))))) = some r := h
 clear h
 replace H := Option.bind_eq_some_iff.mp H
 obtain ⟨⟨t1152, t1153, t1154⟩, A10, H⟩ := H
 (try dsimp -simprocs only at H)
 have A1 := Aside0.mk A10
 clear A10
 obtain ⟨y1155, hy1155⟩ : ∃ y_ : List (S116), y_ = (([(⟨(⟨#[120]⟩ : ByteArray), (⟨t1152, t1153, t1154⟩ : S103)⟩ : S116)] : List (S116))) := ⟨_, rfl⟩
 replace H : ((expr_Read.f k (⟨#[120, 32, 33, 61, 32, 48, 32, 97, 110, 100, 32, 49, 48, 32, 47, 32, 120, 32, 62, 32, 50]⟩ : ByteArray)).bind fun bt1159 => ((expr_Read.f k (⟨#[49, 48, 32, 47, 32, 120]⟩ : ByteArray)).bind fun bt1163 => ((eval_Holds.f k bt1159.1 y1155 ([] : List ByteArray)).bind fun bt1167 => ((eval_Eval.f k bt1163.1 y1155 ([] : List ByteArray)).bind fun bt1169 => (if bt1159.2 = 0 then (if bt1163.2 = 0 then (if bt1167.2 = 0 then (if bt1167.1 = true then (some false) else (some (bt1169.2.2.2 == 22))) else (some false)) else (some false)) else (some false)))))) = some r := by first | (rw [hy1155]; with_reducible exact H) | (have H2_ := (Option.bind_some _ _).symm.trans H; rw [hy1155]; with_reducible exact H2_) | (have H2_ := (Option.bind_some _ _).symm.trans H; with_reducible exact H2_) | with_reducible exact H | (rw [hy1155]; exact H) | exact H
 have Ny1155 := Aside0.mk hy1155
 clear hy1155
 replace H := Option.bind_eq_some_iff.mp H
 obtain ⟨⟨t1159, t1160⟩, A20, H⟩ := H
 (try dsimp -simprocs only at H)
 have A2 := Aside0.mk A20
 clear A20
 replace H := Option.bind_eq_some_iff.mp H
 obtain ⟨⟨t1163, t1164⟩, A30, H⟩ := H
 (try dsimp -simprocs only at H)
 have A3 := Aside0.mk A30
 clear A30
 replace H := Option.bind_eq_some_iff.mp H
 obtain ⟨⟨t1167, t1168⟩, A40, H⟩ := H
 (try dsimp -simprocs only at H)
 have A4 := Aside0.mk A40
 clear A40
 replace H := Option.bind_eq_some_iff.mp H
 obtain ⟨⟨t1169, t1170, t1171, t1172⟩, A50, H⟩ := H
 (try dsimp -simprocs only at H)
 have A5 := Aside0.mk A50
 clear A50
 by_cases c6 : t1160 = 0
 ·rw [if_pos c6] at H
  have c6b0 := beq_iff_eq.mpr c6
  have c6b1 := bne_eq_false_iff_eq.mpr c6
  clear c6
  by_cases c7 : t1164 = 0
  ·rw [if_pos c7] at H
   have c7b0 := beq_iff_eq.mpr c7
   have c7b1 := bne_eq_false_iff_eq.mpr c7
   clear c7
   by_cases c8 : t1168 = 0
   ·rw [if_pos c8] at H
    have c8b0 := beq_iff_eq.mpr c8
    have c8b1 := bne_eq_false_iff_eq.mpr c8
    clear c8
    by_cases c9 : t1167 = true
    ·subst c9; rw [if_pos rfl] at H; obtain rfl := Option.some.inj H
     go_enter Tryd.func59, Tryd.ntmps59
     go_wp2_with (first | ((with_reducible refine gc 96 rfl ?_); refine gl (some 10) #[.int .i64 0] Tryd.func96 ?_; (with_reducible refine (val_Of.calls 0 t1152 t1153 t1154 _ A1.out).mono ?_); rintro e w10 ⟨rfl, hb⟩; refine ⟨_, rfl, ?_⟩; replace HB := bst hb; (try clear hb)) | ((with_reducible refine gate_dst (N := 12) rfl ?_); refine Kd.R_lit k116 _ 116 ?hg (N := 12) ?hd (xs := ([(⟨(⟨#[120]⟩ : ByteArray), (⟨t1152, t1153, t1154⟩ : S103)⟩ : S116)] : List (S116))) (inner := [.string (⟨#[120]⟩ : ByteArray), .int .i64 t1152, .int .i64 t1153, .string t1154]) (ok := fun _ => True) (okp := fun _ => True) ?hr ?hp (fun _ hk => hk) trivial (Below.refl _ _) (Nat.le_refl _) (by simp) ?_; (case hd => rfl); (case hg => rfl); (case hr => first | (go_simp; done) | (go_simp; rfl)); (case hp => exact (Reps.c4 (show Kd.M k116 _ _ _ (⟨(⟨#[120]⟩ : ByteArray), (⟨t1152, t1153, t1154⟩ : S103)⟩ : S116) [.string (⟨#[120]⟩ : ByteArray), .int .i64 t1152, .int .i64 t1153, .string t1154] from (k116_mkM _ _ _ (⟨(⟨#[120]⟩ : ByteArray), (⟨t1152, t1153, t1154⟩ : S103)⟩ : S116) )) (Reps.none _ _))); intro v1156 w11 ho12 hb hg_ hnew_; clear hg_ hnew_; (first | rw [← Ny1155.out] at ho12 | (simp only [Int.reduceToNat] at ho12; rw [← Ny1155.out] at ho12)); have HO1157 := Aside0.mk (Kd.R_lower ho12 (below_size qB)); replace HB := bst hb; clear hb ho12; obtain ⟨Ao13, co13, eo13⟩ := Kd.R_slice HO1157.out; subst eo13) | ((with_reducible refine gd 1 rfl ?_); refine bx 1 #[.slice none 0 0, .slice none 0 0] 98 ?_; intro gb1158 hg w14 hbox hb; have BK1158 := Aside0.mk (hbox); have GW1158 := geS hg; have GE1158 := geS hg; replace HO1157 := rb HO1157 hb; replace HB := bst hb; clear hb hbox hg; obtain ⟨_, _, _, _⟩ := cells2 BK1158.out) | ((with_reducible refine gc 53 rfl ?_); refine gl (some 15) #[.string (⟨#[120, 32, 33, 61, 32, 48, 32, 97, 110, 100, 32, 49, 48, 32, 47, 32, 120, 32, 62, 32, 50]⟩ : ByteArray)] Tryd.func53 ?_; (with_reducible refine (expr_Read.calls k (⟨#[120, 32, 33, 61, 32, 48, 32, 97, 110, 100, 32, 49, 48, 32, 47, 32, 120, 32, 62, 32, 50]⟩ : ByteArray) t1159 t1160 _ ?side1 A2.out).mono ?_); (case side1 => exact Laid.below HLD.out qB); rintro e w16 ⟨v1161, rfl, ho0, hb⟩; refine ⟨_, rfl, ?_⟩; have n0_ := Aside0.mk (Kd.R_below (by (with_reducible repeat (first | apply Kd.R_alloc | apply Kd.R_drewN | apply Kd.R_drew)); exact (Kd.R_mono (Kd.R_far (p := ⟨gb1158, 1, none⟩) (Kd.R_far (p := ⟨gb1158, 0, none⟩) (Kd.R_types HO1157.out BK1158.out (by decide)) (fun _ hk => hk.2) (.slice Ao13 y1155.length co13)) (fun _ hk => hk.2) (.slice none 0 0)) (fun _ h_ => h_.1))) hb); have n1_ := Aside0.mk (Kd.R_lower ho0 (below_size qB)); have n2_ := kp gb1158 (.cells #[.slice Ao13 y1155.length co13, .slice none 0 0] 98 (0, 0)) hb; have n3_ := bst hb; clear HO1157; clear BK1158; clear HB; have HO1157 := n0_; have HO1162 := n1_; have BK1158 := n2_; have HB := n3_; clear n0_ n1_ n2_ n3_; (try clear hb); (try clear ho0)) | ((with_reducible refine gc 53 rfl ?_); refine gl (some 19) #[.string (⟨#[49, 48, 32, 47, 32, 120]⟩ : ByteArray)] Tryd.func53 ?_; (with_reducible refine (expr_Read.calls k (⟨#[49, 48, 32, 47, 32, 120]⟩ : ByteArray) t1163 t1164 _ ?side1 A3.out).mono ?_); (case side1 => exact Laid.below HLD.out qB); rintro e w17 ⟨v1165, rfl, ho0, hb⟩; refine ⟨_, rfl, ?_⟩; have n0_ := rb HO1157 hb; have n1_ := Aside0.mk (Kd.R_elder' (by (with_reducible repeat (first | apply Kd.R_alloc | apply Kd.R_drewN | apply Kd.R_drew)); exact HO1162.out) (Kd.R_base ho0) hb); have n2_ := Aside0.mk (Kd.R_lower (Kd.R_new' ho0 (Kd.R_lt (by (with_reducible repeat (first | apply Kd.R_alloc | apply Kd.R_drewN | apply Kd.R_drew)); exact HO1162.out))) (below_size qB)); have n3_ := kb gb1158 hb; have n4_ := bst hb; clear HO1157; clear HO1162; clear BK1158; clear HB; have HO1157 := n0_; have HO1162 := n1_; have HO1166 := n2_; have BK1158 := n3_; have HB := n4_; clear n0_ n1_ n2_ n3_ n4_; (try clear hb); (try clear ho0); obtain ⟨_, _, _, _⟩ := cells2 BK1158.out; obtain ⟨Ao19, co19, eo19⟩ := Kd.R_slice HO1162.out; subst eo19) | ((with_reducible refine gc 64 rfl ?_); refine gl (some 25) #[.slice Ao19 t1159.length co19, .agg #[.slice Ao13 y1155.length co13, .slice none 0 0]] Tryd.func64 ?_; (refine (eval_Holds.calls k _ _ t1159 _ _ y1155 _ _ ([] : List ByteArray) true t1168 _ ?side1 ?side2 ?side3 ?side4 ?side5 ?side6 ?side7 A4.out).mono ?_); (case side1 => exact cr HO1162); (case side2 => exact (Kd.R_reads' HO1162.out).2.1); (case side3 => exact cr HO1157); (case side4 => exact (Kd.R_reads' HO1157.out).2.1); (case side5 => exact Kd.C_nil _ _); (case side6 => exact Nat.le_refl _); (case side7 => exact Laid.below HLD.out qB); rintro e w20 ⟨rfl, hb⟩; refine ⟨_, rfl, ?_⟩; replace BK1158 := kb gb1158 hb; replace HO1157 := rb HO1157 hb; replace HO1162 := rb HO1162 hb; replace HO1166 := rb HO1166 hb; replace HB := bst hb; (try clear hb); obtain ⟨_, _, _, _⟩ := cells2 BK1158.out; obtain ⟨Ao22, co22, eo22⟩ := Kd.R_slice HO1166.out; subst eo22) | ((with_reducible refine gc 61 rfl ?_); refine gl (some 31) #[.slice Ao22 t1163.length co22, .agg #[.slice Ao13 y1155.length co13, .slice none 0 0]] Tryd.func61 ?_; (refine (eval_Eval.calls k _ _ t1163 _ _ y1155 _ _ ([] : List ByteArray) t1169 t1170 t1171 t1172 _ ?side1 ?side2 ?side3 ?side4 ?side5 ?side6 ?side7 A5.out).mono ?_); (case side1 => exact cr HO1166); (case side2 => exact (Kd.R_reads' HO1166.out).2.1); (case side3 => exact cr HO1157); (case side4 => exact (Kd.R_reads' HO1157.out).2.1); (case side5 => exact Kd.C_nil _ _); (case side6 => exact Nat.le_refl _); (case side7 => exact Laid.below HLD.out qB); rintro e w23 ⟨rfl, hb⟩; refine ⟨_, rfl, ?_⟩; replace BK1158 := kb gb1158 hb; replace HO1157 := rb HO1157 hb; replace HO1162 := rb HO1162 hb; replace HO1166 := rb HO1166 hb; replace HB := bst hb; (try clear hb)) | ((with_reducible refine gd 8 rfl ?_); refine bx 8 #[.int .i64 0, .int .i64 0, .string (⟨#[]⟩ : ByteArray)] 103 ?_; intro gb1173 hg w24 hbox hb; have BK1173 := Aside0.mk (hbox); have GW1173 := geS hg; have GE1173 := geS hg; have NB1158_1173 := neS gb1158 hg; have NB1173_1158 := neT gb1158 hg; replace BK1158 := kb gb1158 hb; replace HO1157 := rb HO1157 hb; replace HO1162 := rb HO1162 hb; replace HO1166 := rb HO1166 hb; replace HB := bst hb; clear hb hbox hg; have := NB1173_1158.out; have := NB1158_1173.out; obtain ⟨_, _, _, _, _, _⟩ := cells3 BK1173.out))
     go_ret; exact ⟨qR, qB⟩
    replace c9 := Bool.eq_false_iff.mpr c9
    subst c9
    rw [if_neg (show ¬ (false = true) by decide)] at H
    obtain rfl := Option.some.inj H
    go_enter Tryd.func59, Tryd.ntmps59
    go_wp2_with (first | ((with_reducible refine gc 96 rfl ?_); refine gl (some 10) #[.int .i64 0] Tryd.func96 ?_; (with_reducible refine (val_Of.calls 0 t1152 t1153 t1154 _ A1.out).mono ?_); rintro e w27 ⟨rfl, hb⟩; refine ⟨_, rfl, ?_⟩; replace HB := bst hb; (try clear hb)) | ((with_reducible refine gate_dst (N := 12) rfl ?_); refine Kd.R_lit k116 _ 116 ?hg (N := 12) ?hd (xs := ([(⟨(⟨#[120]⟩ : ByteArray), (⟨t1152, t1153, t1154⟩ : S103)⟩ : S116)] : List (S116))) (inner := [.string (⟨#[120]⟩ : ByteArray), .int .i64 t1152, .int .i64 t1153, .string t1154]) (ok := fun _ => True) (okp := fun _ => True) ?hr ?hp (fun _ hk => hk) trivial (Below.refl _ _) (Nat.le_refl _) (by simp) ?_; (case hd => rfl); (case hg => rfl); (case hr => first | (go_simp; done) | (go_simp; rfl)); (case hp => exact (Reps.c4 (show Kd.M k116 _ _ _ (⟨(⟨#[120]⟩ : ByteArray), (⟨t1152, t1153, t1154⟩ : S103)⟩ : S116) [.string (⟨#[120]⟩ : ByteArray), .int .i64 t1152, .int .i64 t1153, .string t1154] from (k116_mkM _ _ _ (⟨(⟨#[120]⟩ : ByteArray), (⟨t1152, t1153, t1154⟩ : S103)⟩ : S116) )) (Reps.none _ _))); intro v1156 w28 ho29 hb hg_ hnew_; clear hg_ hnew_; (first | rw [← Ny1155.out] at ho29 | (simp only [Int.reduceToNat] at ho29; rw [← Ny1155.out] at ho29)); have HO1157 := Aside0.mk (Kd.R_lower ho29 (below_size qB)); replace HB := bst hb; clear hb ho29; obtain ⟨Ao30, co30, eo30⟩ := Kd.R_slice HO1157.out; subst eo30) | ((with_reducible refine gd 1 rfl ?_); refine bx 1 #[.slice none 0 0, .slice none 0 0] 98 ?_; intro gb1158 hg w31 hbox hb; have BK1158 := Aside0.mk (hbox); have GW1158 := geS hg; have GE1158 := geS hg; replace HO1157 := rb HO1157 hb; replace HB := bst hb; clear hb hbox hg; obtain ⟨_, _, _, _⟩ := cells2 BK1158.out) | ((with_reducible refine gc 53 rfl ?_); refine gl (some 15) #[.string (⟨#[120, 32, 33, 61, 32, 48, 32, 97, 110, 100, 32, 49, 48, 32, 47, 32, 120, 32, 62, 32, 50]⟩ : ByteArray)] Tryd.func53 ?_; (with_reducible refine (expr_Read.calls k (⟨#[120, 32, 33, 61, 32, 48, 32, 97, 110, 100, 32, 49, 48, 32, 47, 32, 120, 32, 62, 32, 50]⟩ : ByteArray) t1159 t1160 _ ?side1 A2.out).mono ?_); (case side1 => exact Laid.below HLD.out qB); rintro e w33 ⟨v1161, rfl, ho0, hb⟩; refine ⟨_, rfl, ?_⟩; have n0_ := Aside0.mk (Kd.R_below (by (with_reducible repeat (first | apply Kd.R_alloc | apply Kd.R_drewN | apply Kd.R_drew)); exact (Kd.R_mono (Kd.R_far (p := ⟨gb1158, 1, none⟩) (Kd.R_far (p := ⟨gb1158, 0, none⟩) (Kd.R_types HO1157.out BK1158.out (by decide)) (fun _ hk => hk.2) (.slice Ao30 y1155.length co30)) (fun _ hk => hk.2) (.slice none 0 0)) (fun _ h_ => h_.1))) hb); have n1_ := Aside0.mk (Kd.R_lower ho0 (below_size qB)); have n2_ := kp gb1158 (.cells #[.slice Ao30 y1155.length co30, .slice none 0 0] 98 (0, 0)) hb; have n3_ := bst hb; clear HO1157; clear BK1158; clear HB; have HO1157 := n0_; have HO1162 := n1_; have BK1158 := n2_; have HB := n3_; clear n0_ n1_ n2_ n3_; (try clear hb); (try clear ho0)) | ((with_reducible refine gc 53 rfl ?_); refine gl (some 19) #[.string (⟨#[49, 48, 32, 47, 32, 120]⟩ : ByteArray)] Tryd.func53 ?_; (with_reducible refine (expr_Read.calls k (⟨#[49, 48, 32, 47, 32, 120]⟩ : ByteArray) t1163 t1164 _ ?side1 A3.out).mono ?_); (case side1 => exact Laid.below HLD.out qB); rintro e w34 ⟨v1165, rfl, ho0, hb⟩; refine ⟨_, rfl, ?_⟩; have n0_ := rb HO1157 hb; have n1_ := Aside0.mk (Kd.R_elder' (by (with_reducible repeat (first | apply Kd.R_alloc | apply Kd.R_drewN | apply Kd.R_drew)); exact HO1162.out) (Kd.R_base ho0) hb); have n2_ := Aside0.mk (Kd.R_lower (Kd.R_new' ho0 (Kd.R_lt (by (with_reducible repeat (first | apply Kd.R_alloc | apply Kd.R_drewN | apply Kd.R_drew)); exact HO1162.out))) (below_size qB)); have n3_ := kb gb1158 hb; have n4_ := bst hb; clear HO1157; clear HO1162; clear BK1158; clear HB; have HO1157 := n0_; have HO1162 := n1_; have HO1166 := n2_; have BK1158 := n3_; have HB := n4_; clear n0_ n1_ n2_ n3_ n4_; (try clear hb); (try clear ho0); obtain ⟨_, _, _, _⟩ := cells2 BK1158.out; obtain ⟨Ao36, co36, eo36⟩ := Kd.R_slice HO1162.out; subst eo36) | ((with_reducible refine gc 64 rfl ?_); refine gl (some 25) #[.slice Ao36 t1159.length co36, .agg #[.slice Ao30 y1155.length co30, .slice none 0 0]] Tryd.func64 ?_; (refine (eval_Holds.calls k _ _ t1159 _ _ y1155 _ _ ([] : List ByteArray) false t1168 _ ?side1 ?side2 ?side3 ?side4 ?side5 ?side6 ?side7 A4.out).mono ?_); (case side1 => exact cr HO1162); (case side2 => exact (Kd.R_reads' HO1162.out).2.1); (case side3 => exact cr HO1157); (case side4 => exact (Kd.R_reads' HO1157.out).2.1); (case side5 => exact Kd.C_nil _ _); (case side6 => exact Nat.le_refl _); (case side7 => exact Laid.below HLD.out qB); rintro e w37 ⟨rfl, hb⟩; refine ⟨_, rfl, ?_⟩; replace BK1158 := kb gb1158 hb; replace HO1157 := rb HO1157 hb; replace HO1162 := rb HO1162 hb; replace HO1166 := rb HO1166 hb; replace HB := bst hb; (try clear hb); obtain ⟨_, _, _, _⟩ := cells2 BK1158.out; obtain ⟨Ao39, co39, eo39⟩ := Kd.R_slice HO1166.out; subst eo39) | ((with_reducible refine gc 61 rfl ?_); refine gl (some 31) #[.slice Ao39 t1163.length co39, .agg #[.slice Ao30 y1155.length co30, .slice none 0 0]] Tryd.func61 ?_; (refine (eval_Eval.calls k _ _ t1163 _ _ y1155 _ _ ([] : List ByteArray) t1169 t1170 t1171 t1172 _ ?side1 ?side2 ?side3 ?side4 ?side5 ?side6 ?side7 A5.out).mono ?_); (case side1 => exact cr HO1166); (case side2 => exact (Kd.R_reads' HO1166.out).2.1); (case side3 => exact cr HO1157); (case side4 => exact (Kd.R_reads' HO1157.out).2.1); (case side5 => exact Kd.C_nil _ _); (case side6 => exact Nat.le_refl _); (case side7 => exact Laid.below HLD.out qB); rintro e w40 ⟨rfl, hb⟩; refine ⟨_, rfl, ?_⟩; replace BK1158 := kb gb1158 hb; replace HO1157 := rb HO1157 hb; replace HO1162 := rb HO1162 hb; replace HO1166 := rb HO1166 hb; replace HB := bst hb; (try clear hb)) | ((with_reducible refine gd 8 rfl ?_); refine bx 8 #[.int .i64 0, .int .i64 0, .string (⟨#[]⟩ : ByteArray)] 103 ?_; intro gb1173 hg w41 hbox hb; have BK1173 := Aside0.mk (hbox); have GW1173 := geS hg; have GE1173 := geS hg; have NB1158_1173 := neS gb1158 hg; have NB1173_1158 := neT gb1158 hg; replace BK1158 := kb gb1158 hb; replace HO1157 := rb HO1157 hb; replace HO1162 := rb HO1162 hb; replace HO1166 := rb HO1166 hb; replace HB := bst hb; clear hb hbox hg; have := NB1173_1158.out; have := NB1158_1173.out; obtain ⟨_, _, _, _, _, _⟩ := cells3 BK1173.out))
    go_ret
    exact ⟨qR, qB⟩
   rw [if_neg c8] at H
   have c8b0 := beq_eq_false_iff_ne.mpr c8
   have c8b1 := bne_iff_ne.mpr c8
   obtain rfl := Option.some.inj H
   go_enter Tryd.func59, Tryd.ntmps59
   go_wp2_with (first | ((with_reducible refine gc 96 rfl ?_); refine gl (some 10) #[.int .i64 0] Tryd.func96 ?_; (with_reducible refine (val_Of.calls 0 t1152 t1153 t1154 _ A1.out).mono ?_); rintro e w44 ⟨rfl, hb⟩; refine ⟨_, rfl, ?_⟩; replace HB := bst hb; (try clear hb)) | ((with_reducible refine gate_dst (N := 12) rfl ?_); refine Kd.R_lit k116 _ 116 ?hg (N := 12) ?hd (xs := ([(⟨(⟨#[120]⟩ : ByteArray), (⟨t1152, t1153, t1154⟩ : S103)⟩ : S116)] : List (S116))) (inner := [.string (⟨#[120]⟩ : ByteArray), .int .i64 t1152, .int .i64 t1153, .string t1154]) (ok := fun _ => True) (okp := fun _ => True) ?hr ?hp (fun _ hk => hk) trivial (Below.refl _ _) (Nat.le_refl _) (by simp) ?_; (case hd => rfl); (case hg => rfl); (case hr => first | (go_simp; done) | (go_simp; rfl)); (case hp => exact (Reps.c4 (show Kd.M k116 _ _ _ (⟨(⟨#[120]⟩ : ByteArray), (⟨t1152, t1153, t1154⟩ : S103)⟩ : S116) [.string (⟨#[120]⟩ : ByteArray), .int .i64 t1152, .int .i64 t1153, .string t1154] from (k116_mkM _ _ _ (⟨(⟨#[120]⟩ : ByteArray), (⟨t1152, t1153, t1154⟩ : S103)⟩ : S116) )) (Reps.none _ _))); intro v1156 w45 ho46 hb hg_ hnew_; clear hg_ hnew_; (first | rw [← Ny1155.out] at ho46 | (simp only [Int.reduceToNat] at ho46; rw [← Ny1155.out] at ho46)); have HO1157 := Aside0.mk (Kd.R_lower ho46 (below_size qB)); replace HB := bst hb; clear hb ho46; obtain ⟨Ao47, co47, eo47⟩ := Kd.R_slice HO1157.out; subst eo47) | ((with_reducible refine gd 1 rfl ?_); refine bx 1 #[.slice none 0 0, .slice none 0 0] 98 ?_; intro gb1158 hg w48 hbox hb; have BK1158 := Aside0.mk (hbox); have GW1158 := geS hg; have GE1158 := geS hg; replace HO1157 := rb HO1157 hb; replace HB := bst hb; clear hb hbox hg; obtain ⟨_, _, _, _⟩ := cells2 BK1158.out) | ((with_reducible refine gc 53 rfl ?_); refine gl (some 15) #[.string (⟨#[120, 32, 33, 61, 32, 48, 32, 97, 110, 100, 32, 49, 48, 32, 47, 32, 120, 32, 62, 32, 50]⟩ : ByteArray)] Tryd.func53 ?_; (with_reducible refine (expr_Read.calls k (⟨#[120, 32, 33, 61, 32, 48, 32, 97, 110, 100, 32, 49, 48, 32, 47, 32, 120, 32, 62, 32, 50]⟩ : ByteArray) t1159 t1160 _ ?side1 A2.out).mono ?_); (case side1 => exact Laid.below HLD.out qB); rintro e w50 ⟨v1161, rfl, ho0, hb⟩; refine ⟨_, rfl, ?_⟩; have n0_ := Aside0.mk (Kd.R_below (by (with_reducible repeat (first | apply Kd.R_alloc | apply Kd.R_drewN | apply Kd.R_drew)); exact (Kd.R_mono (Kd.R_far (p := ⟨gb1158, 1, none⟩) (Kd.R_far (p := ⟨gb1158, 0, none⟩) (Kd.R_types HO1157.out BK1158.out (by decide)) (fun _ hk => hk.2) (.slice Ao47 y1155.length co47)) (fun _ hk => hk.2) (.slice none 0 0)) (fun _ h_ => h_.1))) hb); have n1_ := Aside0.mk (Kd.R_lower ho0 (below_size qB)); have n2_ := kp gb1158 (.cells #[.slice Ao47 y1155.length co47, .slice none 0 0] 98 (0, 0)) hb; have n3_ := bst hb; clear HO1157; clear BK1158; clear HB; have HO1157 := n0_; have HO1162 := n1_; have BK1158 := n2_; have HB := n3_; clear n0_ n1_ n2_ n3_; (try clear hb); (try clear ho0)) | ((with_reducible refine gc 53 rfl ?_); refine gl (some 19) #[.string (⟨#[49, 48, 32, 47, 32, 120]⟩ : ByteArray)] Tryd.func53 ?_; (with_reducible refine (expr_Read.calls k (⟨#[49, 48, 32, 47, 32, 120]⟩ : ByteArray) t1163 t1164 _ ?side1 A3.out).mono ?_); (case side1 => exact Laid.below HLD.out qB); rintro e w51 ⟨v1165, rfl, ho0, hb⟩; refine ⟨_, rfl, ?_⟩; have n0_ := rb HO1157 hb; have n1_ := Aside0.mk (Kd.R_elder' (by (with_reducible repeat (first | apply Kd.R_alloc | apply Kd.R_drewN | apply Kd.R_drew)); exact HO1162.out) (Kd.R_base ho0) hb); have n2_ := Aside0.mk (Kd.R_lower (Kd.R_new' ho0 (Kd.R_lt (by (with_reducible repeat (first | apply Kd.R_alloc | apply Kd.R_drewN | apply Kd.R_drew)); exact HO1162.out))) (below_size qB)); have n3_ := kb gb1158 hb; have n4_ := bst hb; clear HO1157; clear HO1162; clear BK1158; clear HB; have HO1157 := n0_; have HO1162 := n1_; have HO1166 := n2_; have BK1158 := n3_; have HB := n4_; clear n0_ n1_ n2_ n3_ n4_; (try clear hb); (try clear ho0); obtain ⟨_, _, _, _⟩ := cells2 BK1158.out; obtain ⟨Ao53, co53, eo53⟩ := Kd.R_slice HO1162.out; subst eo53) | ((with_reducible refine gc 64 rfl ?_); refine gl (some 25) #[.slice Ao53 t1159.length co53, .agg #[.slice Ao47 y1155.length co47, .slice none 0 0]] Tryd.func64 ?_; (refine (eval_Holds.calls k _ _ t1159 _ _ y1155 _ _ ([] : List ByteArray) t1167 t1168 _ ?side1 ?side2 ?side3 ?side4 ?side5 ?side6 ?side7 A4.out).mono ?_); (case side1 => exact cr HO1162); (case side2 => exact (Kd.R_reads' HO1162.out).2.1); (case side3 => exact cr HO1157); (case side4 => exact (Kd.R_reads' HO1157.out).2.1); (case side5 => exact Kd.C_nil _ _); (case side6 => exact Nat.le_refl _); (case side7 => exact Laid.below HLD.out qB); rintro e w54 ⟨rfl, hb⟩; refine ⟨_, rfl, ?_⟩; replace BK1158 := kb gb1158 hb; replace HO1157 := rb HO1157 hb; replace HO1162 := rb HO1162 hb; replace HO1166 := rb HO1166 hb; replace HB := bst hb; (try clear hb); obtain ⟨_, _, _, _⟩ := cells2 BK1158.out; obtain ⟨Ao56, co56, eo56⟩ := Kd.R_slice HO1166.out; subst eo56) | ((with_reducible refine gc 61 rfl ?_); refine gl (some 31) #[.slice Ao56 t1163.length co56, .agg #[.slice Ao47 y1155.length co47, .slice none 0 0]] Tryd.func61 ?_; (refine (eval_Eval.calls k _ _ t1163 _ _ y1155 _ _ ([] : List ByteArray) t1169 t1170 t1171 t1172 _ ?side1 ?side2 ?side3 ?side4 ?side5 ?side6 ?side7 A5.out).mono ?_); (case side1 => exact cr HO1166); (case side2 => exact (Kd.R_reads' HO1166.out).2.1); (case side3 => exact cr HO1157); (case side4 => exact (Kd.R_reads' HO1157.out).2.1); (case side5 => exact Kd.C_nil _ _); (case side6 => exact Nat.le_refl _); (case side7 => exact Laid.below HLD.out qB); rintro e w57 ⟨rfl, hb⟩; refine ⟨_, rfl, ?_⟩; replace BK1158 := kb gb1158 hb; replace HO1157 := rb HO1157 hb; replace HO1162 := rb HO1162 hb; replace HO1166 := rb HO1166 hb; replace HB := bst hb; (try clear hb)) | ((with_reducible refine gd 8 rfl ?_); refine bx 8 #[.int .i64 0, .int .i64 0, .string (⟨#[]⟩ : ByteArray)] 103 ?_; intro gb1173 hg w58 hbox hb; have BK1173 := Aside0.mk (hbox); have GW1173 := geS hg; have GE1173 := geS hg; have NB1158_1173 := neS gb1158 hg; have NB1173_1158 := neT gb1158 hg; replace BK1158 := kb gb1158 hb; replace HO1157 := rb HO1157 hb; replace HO1162 := rb HO1162 hb; replace HO1166 := rb HO1166 hb; replace HB := bst hb; clear hb hbox hg; have := NB1173_1158.out; have := NB1158_1173.out; obtain ⟨_, _, _, _, _, _⟩ := cells3 BK1173.out))
   go_ret
   exact ⟨qR, qB⟩
  rw [if_neg c7] at H
  have c7b0 := beq_eq_false_iff_ne.mpr c7
  have c7b1 := bne_iff_ne.mpr c7
  obtain rfl := Option.some.inj H
  go_enter Tryd.func59, Tryd.ntmps59
  go_wp2_with (first | ((with_reducible refine gc 96 rfl ?_); refine gl (some 10) #[.int .i64 0] Tryd.func96 ?_; (with_reducible refine (val_Of.calls 0 t1152 t1153 t1154 _ A1.out).mono ?_); rintro e w61 ⟨rfl, hb⟩; refine ⟨_, rfl, ?_⟩; replace HB := bst hb; (try clear hb)) | ((with_reducible refine gate_dst (N := 12) rfl ?_); refine Kd.R_lit k116 _ 116 ?hg (N := 12) ?hd (xs := ([(⟨(⟨#[120]⟩ : ByteArray), (⟨t1152, t1153, t1154⟩ : S103)⟩ : S116)] : List (S116))) (inner := [.string (⟨#[120]⟩ : ByteArray), .int .i64 t1152, .int .i64 t1153, .string t1154]) (ok := fun _ => True) (okp := fun _ => True) ?hr ?hp (fun _ hk => hk) trivial (Below.refl _ _) (Nat.le_refl _) (by simp) ?_; (case hd => rfl); (case hg => rfl); (case hr => first | (go_simp; done) | (go_simp; rfl)); (case hp => exact (Reps.c4 (show Kd.M k116 _ _ _ (⟨(⟨#[120]⟩ : ByteArray), (⟨t1152, t1153, t1154⟩ : S103)⟩ : S116) [.string (⟨#[120]⟩ : ByteArray), .int .i64 t1152, .int .i64 t1153, .string t1154] from (k116_mkM _ _ _ (⟨(⟨#[120]⟩ : ByteArray), (⟨t1152, t1153, t1154⟩ : S103)⟩ : S116) )) (Reps.none _ _))); intro v1156 w62 ho63 hb hg_ hnew_; clear hg_ hnew_; (first | rw [← Ny1155.out] at ho63 | (simp only [Int.reduceToNat] at ho63; rw [← Ny1155.out] at ho63)); have HO1157 := Aside0.mk (Kd.R_lower ho63 (below_size qB)); replace HB := bst hb; clear hb ho63; obtain ⟨Ao64, co64, eo64⟩ := Kd.R_slice HO1157.out; subst eo64) | ((with_reducible refine gd 1 rfl ?_); refine bx 1 #[.slice none 0 0, .slice none 0 0] 98 ?_; intro gb1158 hg w65 hbox hb; have BK1158 := Aside0.mk (hbox); have GW1158 := geS hg; have GE1158 := geS hg; replace HO1157 := rb HO1157 hb; replace HB := bst hb; clear hb hbox hg; obtain ⟨_, _, _, _⟩ := cells2 BK1158.out) | ((with_reducible refine gc 53 rfl ?_); refine gl (some 15) #[.string (⟨#[120, 32, 33, 61, 32, 48, 32, 97, 110, 100, 32, 49, 48, 32, 47, 32, 120, 32, 62, 32, 50]⟩ : ByteArray)] Tryd.func53 ?_; (with_reducible refine (expr_Read.calls k (⟨#[120, 32, 33, 61, 32, 48, 32, 97, 110, 100, 32, 49, 48, 32, 47, 32, 120, 32, 62, 32, 50]⟩ : ByteArray) t1159 t1160 _ ?side1 A2.out).mono ?_); (case side1 => exact Laid.below HLD.out qB); rintro e w67 ⟨v1161, rfl, ho0, hb⟩; refine ⟨_, rfl, ?_⟩; have n0_ := Aside0.mk (Kd.R_below (by (with_reducible repeat (first | apply Kd.R_alloc | apply Kd.R_drewN | apply Kd.R_drew)); exact (Kd.R_mono (Kd.R_far (p := ⟨gb1158, 1, none⟩) (Kd.R_far (p := ⟨gb1158, 0, none⟩) (Kd.R_types HO1157.out BK1158.out (by decide)) (fun _ hk => hk.2) (.slice Ao64 y1155.length co64)) (fun _ hk => hk.2) (.slice none 0 0)) (fun _ h_ => h_.1))) hb); have n1_ := Aside0.mk (Kd.R_lower ho0 (below_size qB)); have n2_ := kp gb1158 (.cells #[.slice Ao64 y1155.length co64, .slice none 0 0] 98 (0, 0)) hb; have n3_ := bst hb; clear HO1157; clear BK1158; clear HB; have HO1157 := n0_; have HO1162 := n1_; have BK1158 := n2_; have HB := n3_; clear n0_ n1_ n2_ n3_; (try clear hb); (try clear ho0)) | ((with_reducible refine gc 53 rfl ?_); refine gl (some 19) #[.string (⟨#[49, 48, 32, 47, 32, 120]⟩ : ByteArray)] Tryd.func53 ?_; (with_reducible refine (expr_Read.calls k (⟨#[49, 48, 32, 47, 32, 120]⟩ : ByteArray) t1163 t1164 _ ?side1 A3.out).mono ?_); (case side1 => exact Laid.below HLD.out qB); rintro e w68 ⟨v1165, rfl, ho0, hb⟩; refine ⟨_, rfl, ?_⟩; have n0_ := rb HO1157 hb; have n1_ := Aside0.mk (Kd.R_elder' (by (with_reducible repeat (first | apply Kd.R_alloc | apply Kd.R_drewN | apply Kd.R_drew)); exact HO1162.out) (Kd.R_base ho0) hb); have n2_ := Aside0.mk (Kd.R_lower (Kd.R_new' ho0 (Kd.R_lt (by (with_reducible repeat (first | apply Kd.R_alloc | apply Kd.R_drewN | apply Kd.R_drew)); exact HO1162.out))) (below_size qB)); have n3_ := kb gb1158 hb; have n4_ := bst hb; clear HO1157; clear HO1162; clear BK1158; clear HB; have HO1157 := n0_; have HO1162 := n1_; have HO1166 := n2_; have BK1158 := n3_; have HB := n4_; clear n0_ n1_ n2_ n3_ n4_; (try clear hb); (try clear ho0); obtain ⟨_, _, _, _⟩ := cells2 BK1158.out; obtain ⟨Ao70, co70, eo70⟩ := Kd.R_slice HO1162.out; subst eo70) | ((with_reducible refine gc 64 rfl ?_); refine gl (some 25) #[.slice Ao70 t1159.length co70, .agg #[.slice Ao64 y1155.length co64, .slice none 0 0]] Tryd.func64 ?_; (refine (eval_Holds.calls k _ _ t1159 _ _ y1155 _ _ ([] : List ByteArray) t1167 t1168 _ ?side1 ?side2 ?side3 ?side4 ?side5 ?side6 ?side7 A4.out).mono ?_); (case side1 => exact cr HO1162); (case side2 => exact (Kd.R_reads' HO1162.out).2.1); (case side3 => exact cr HO1157); (case side4 => exact (Kd.R_reads' HO1157.out).2.1); (case side5 => exact Kd.C_nil _ _); (case side6 => exact Nat.le_refl _); (case side7 => exact Laid.below HLD.out qB); rintro e w71 ⟨rfl, hb⟩; refine ⟨_, rfl, ?_⟩; replace BK1158 := kb gb1158 hb; replace HO1157 := rb HO1157 hb; replace HO1162 := rb HO1162 hb; replace HO1166 := rb HO1166 hb; replace HB := bst hb; (try clear hb); obtain ⟨_, _, _, _⟩ := cells2 BK1158.out; obtain ⟨Ao73, co73, eo73⟩ := Kd.R_slice HO1166.out; subst eo73) | ((with_reducible refine gc 61 rfl ?_); refine gl (some 31) #[.slice Ao73 t1163.length co73, .agg #[.slice Ao64 y1155.length co64, .slice none 0 0]] Tryd.func61 ?_; (refine (eval_Eval.calls k _ _ t1163 _ _ y1155 _ _ ([] : List ByteArray) t1169 t1170 t1171 t1172 _ ?side1 ?side2 ?side3 ?side4 ?side5 ?side6 ?side7 A5.out).mono ?_); (case side1 => exact cr HO1166); (case side2 => exact (Kd.R_reads' HO1166.out).2.1); (case side3 => exact cr HO1157); (case side4 => exact (Kd.R_reads' HO1157.out).2.1); (case side5 => exact Kd.C_nil _ _); (case side6 => exact Nat.le_refl _); (case side7 => exact Laid.below HLD.out qB); rintro e w74 ⟨rfl, hb⟩; refine ⟨_, rfl, ?_⟩; replace BK1158 := kb gb1158 hb; replace HO1157 := rb HO1157 hb; replace HO1162 := rb HO1162 hb; replace HO1166 := rb HO1166 hb; replace HB := bst hb; (try clear hb)) | ((with_reducible refine gd 8 rfl ?_); refine bx 8 #[.int .i64 0, .int .i64 0, .string (⟨#[]⟩ : ByteArray)] 103 ?_; intro gb1173 hg w75 hbox hb; have BK1173 := Aside0.mk (hbox); have GW1173 := geS hg; have GE1173 := geS hg; have NB1158_1173 := neS gb1158 hg; have NB1173_1158 := neT gb1158 hg; replace BK1158 := kb gb1158 hb; replace HO1157 := rb HO1157 hb; replace HO1162 := rb HO1162 hb; replace HO1166 := rb HO1166 hb; replace HB := bst hb; clear hb hbox hg; have := NB1173_1158.out; have := NB1158_1173.out; obtain ⟨_, _, _, _, _, _⟩ := cells3 BK1173.out))
  go_ret
  exact ⟨qR, qB⟩
 rw [if_neg c6] at H
 have c6b0 := beq_eq_false_iff_ne.mpr c6
 have c6b1 := bne_iff_ne.mpr c6
 obtain rfl := Option.some.inj H
 go_enter Tryd.func59, Tryd.ntmps59
 go_wp2_with (first | ((with_reducible refine gc 96 rfl ?_); refine gl (some 10) #[.int .i64 0] Tryd.func96 ?_; (with_reducible refine (val_Of.calls 0 t1152 t1153 t1154 _ A1.out).mono ?_); rintro e w78 ⟨rfl, hb⟩; refine ⟨_, rfl, ?_⟩; replace HB := bst hb; (try clear hb)) | ((with_reducible refine gate_dst (N := 12) rfl ?_); refine Kd.R_lit k116 _ 116 ?hg (N := 12) ?hd (xs := ([(⟨(⟨#[120]⟩ : ByteArray), (⟨t1152, t1153, t1154⟩ : S103)⟩ : S116)] : List (S116))) (inner := [.string (⟨#[120]⟩ : ByteArray), .int .i64 t1152, .int .i64 t1153, .string t1154]) (ok := fun _ => True) (okp := fun _ => True) ?hr ?hp (fun _ hk => hk) trivial (Below.refl _ _) (Nat.le_refl _) (by simp) ?_; (case hd => rfl); (case hg => rfl); (case hr => first | (go_simp; done) | (go_simp; rfl)); (case hp => exact (Reps.c4 (show Kd.M k116 _ _ _ (⟨(⟨#[120]⟩ : ByteArray), (⟨t1152, t1153, t1154⟩ : S103)⟩ : S116) [.string (⟨#[120]⟩ : ByteArray), .int .i64 t1152, .int .i64 t1153, .string t1154] from (k116_mkM _ _ _ (⟨(⟨#[120]⟩ : ByteArray), (⟨t1152, t1153, t1154⟩ : S103)⟩ : S116) )) (Reps.none _ _))); intro v1156 w79 ho80 hb hg_ hnew_; clear hg_ hnew_; (first | rw [← Ny1155.out] at ho80 | (simp only [Int.reduceToNat] at ho80; rw [← Ny1155.out] at ho80)); have HO1157 := Aside0.mk (Kd.R_lower ho80 (below_size qB)); replace HB := bst hb; clear hb ho80; obtain ⟨Ao81, co81, eo81⟩ := Kd.R_slice HO1157.out; subst eo81) | ((with_reducible refine gd 1 rfl ?_); refine bx 1 #[.slice none 0 0, .slice none 0 0] 98 ?_; intro gb1158 hg w82 hbox hb; have BK1158 := Aside0.mk (hbox); have GW1158 := geS hg; have GE1158 := geS hg; replace HO1157 := rb HO1157 hb; replace HB := bst hb; clear hb hbox hg; obtain ⟨_, _, _, _⟩ := cells2 BK1158.out) | ((with_reducible refine gc 53 rfl ?_); refine gl (some 15) #[.string (⟨#[120, 32, 33, 61, 32, 48, 32, 97, 110, 100, 32, 49, 48, 32, 47, 32, 120, 32, 62, 32, 50]⟩ : ByteArray)] Tryd.func53 ?_; (with_reducible refine (expr_Read.calls k (⟨#[120, 32, 33, 61, 32, 48, 32, 97, 110, 100, 32, 49, 48, 32, 47, 32, 120, 32, 62, 32, 50]⟩ : ByteArray) t1159 t1160 _ ?side1 A2.out).mono ?_); (case side1 => exact Laid.below HLD.out qB); rintro e w84 ⟨v1161, rfl, ho0, hb⟩; refine ⟨_, rfl, ?_⟩; have n0_ := Aside0.mk (Kd.R_below (by (with_reducible repeat (first | apply Kd.R_alloc | apply Kd.R_drewN | apply Kd.R_drew)); exact (Kd.R_mono (Kd.R_far (p := ⟨gb1158, 1, none⟩) (Kd.R_far (p := ⟨gb1158, 0, none⟩) (Kd.R_types HO1157.out BK1158.out (by decide)) (fun _ hk => hk.2) (.slice Ao81 y1155.length co81)) (fun _ hk => hk.2) (.slice none 0 0)) (fun _ h_ => h_.1))) hb); have n1_ := Aside0.mk (Kd.R_lower ho0 (below_size qB)); have n2_ := kp gb1158 (.cells #[.slice Ao81 y1155.length co81, .slice none 0 0] 98 (0, 0)) hb; have n3_ := bst hb; clear HO1157; clear BK1158; clear HB; have HO1157 := n0_; have HO1162 := n1_; have BK1158 := n2_; have HB := n3_; clear n0_ n1_ n2_ n3_; (try clear hb); (try clear ho0)) | ((with_reducible refine gc 53 rfl ?_); refine gl (some 19) #[.string (⟨#[49, 48, 32, 47, 32, 120]⟩ : ByteArray)] Tryd.func53 ?_; (with_reducible refine (expr_Read.calls k (⟨#[49, 48, 32, 47, 32, 120]⟩ : ByteArray) t1163 t1164 _ ?side1 A3.out).mono ?_); (case side1 => exact Laid.below HLD.out qB); rintro e w85 ⟨v1165, rfl, ho0, hb⟩; refine ⟨_, rfl, ?_⟩; have n0_ := rb HO1157 hb; have n1_ := Aside0.mk (Kd.R_elder' (by (with_reducible repeat (first | apply Kd.R_alloc | apply Kd.R_drewN | apply Kd.R_drew)); exact HO1162.out) (Kd.R_base ho0) hb); have n2_ := Aside0.mk (Kd.R_lower (Kd.R_new' ho0 (Kd.R_lt (by (with_reducible repeat (first | apply Kd.R_alloc | apply Kd.R_drewN | apply Kd.R_drew)); exact HO1162.out))) (below_size qB)); have n3_ := kb gb1158 hb; have n4_ := bst hb; clear HO1157; clear HO1162; clear BK1158; clear HB; have HO1157 := n0_; have HO1162 := n1_; have HO1166 := n2_; have BK1158 := n3_; have HB := n4_; clear n0_ n1_ n2_ n3_ n4_; (try clear hb); (try clear ho0); obtain ⟨_, _, _, _⟩ := cells2 BK1158.out; obtain ⟨Ao87, co87, eo87⟩ := Kd.R_slice HO1162.out; subst eo87) | ((with_reducible refine gc 64 rfl ?_); refine gl (some 25) #[.slice Ao87 t1159.length co87, .agg #[.slice Ao81 y1155.length co81, .slice none 0 0]] Tryd.func64 ?_; (refine (eval_Holds.calls k _ _ t1159 _ _ y1155 _ _ ([] : List ByteArray) t1167 t1168 _ ?side1 ?side2 ?side3 ?side4 ?side5 ?side6 ?side7 A4.out).mono ?_); (case side1 => exact cr HO1162); (case side2 => exact (Kd.R_reads' HO1162.out).2.1); (case side3 => exact cr HO1157); (case side4 => exact (Kd.R_reads' HO1157.out).2.1); (case side5 => exact Kd.C_nil _ _); (case side6 => exact Nat.le_refl _); (case side7 => exact Laid.below HLD.out qB); rintro e w88 ⟨rfl, hb⟩; refine ⟨_, rfl, ?_⟩; replace BK1158 := kb gb1158 hb; replace HO1157 := rb HO1157 hb; replace HO1162 := rb HO1162 hb; replace HO1166 := rb HO1166 hb; replace HB := bst hb; (try clear hb); obtain ⟨_, _, _, _⟩ := cells2 BK1158.out; obtain ⟨Ao90, co90, eo90⟩ := Kd.R_slice HO1166.out; subst eo90) | ((with_reducible refine gc 61 rfl ?_); refine gl (some 31) #[.slice Ao90 t1163.length co90, .agg #[.slice Ao81 y1155.length co81, .slice none 0 0]] Tryd.func61 ?_; (refine (eval_Eval.calls k _ _ t1163 _ _ y1155 _ _ ([] : List ByteArray) t1169 t1170 t1171 t1172 _ ?side1 ?side2 ?side3 ?side4 ?side5 ?side6 ?side7 A5.out).mono ?_); (case side1 => exact cr HO1166); (case side2 => exact (Kd.R_reads' HO1166.out).2.1); (case side3 => exact cr HO1157); (case side4 => exact (Kd.R_reads' HO1157.out).2.1); (case side5 => exact Kd.C_nil _ _); (case side6 => exact Nat.le_refl _); (case side7 => exact Laid.below HLD.out qB); rintro e w91 ⟨rfl, hb⟩; refine ⟨_, rfl, ?_⟩; replace BK1158 := kb gb1158 hb; replace HO1157 := rb HO1157 hb; replace HO1162 := rb HO1162 hb; replace HO1166 := rb HO1166 hb; replace HB := bst hb; (try clear hb)) | ((with_reducible refine gd 8 rfl ?_); refine bx 8 #[.int .i64 0, .int .i64 0, .string (⟨#[]⟩ : ByteArray)] 103 ?_; intro gb1173 hg w92 hbox hb; have BK1173 := Aside0.mk (hbox); have GW1173 := geS hg; have GE1173 := geS hg; have NB1158_1173 := neS gb1158 hg; have NB1173_1158 := neT gb1158 hg; replace BK1158 := kb gb1158 hb; replace HO1157 := rb HO1157 hb; replace HO1162 := rb HO1162 hb; replace HO1166 := rb HO1166 hb; replace HB := bst hb; clear hb hbox hg; have := NB1173_1158.out; have := NB1158_1173.out; obtain ⟨_, _, _, _, _, _⟩ := cells3 BK1173.out))
 go_ret
 exact ⟨qR, qB⟩
def whirligigref01_Right.f (k : Nat) (a0_0 : Int) (a0_1 : Int) (a0_2 : ByteArray) : Option (Bool) := if a0_0 = 3 then (if a0_1 = 0 then ((whirligigref01_Plain.f k a0_2).bind fun t1175 => (some t1175)) else (some false)) else (if a0_2.toList = ([] : List UInt8) then (if a0_0 = 1 then (some true) else (if a0_0 = 2 then (if a0_1 = 0 then (some true) else (some (a0_1 == 1))) else (some false))) else (some false))
set_option maxHeartbeats 8000000 in
set_option maxRecDepth 100000 in
theorem whirligigref01_Right.calls (k : Nat) (a0_0 : Int) (a0_1 : Int) (a0_2 : ByteArray) (r : Bool) (w : World) (h : whirligigref01_Right.f k a0_0 a0_1 a0_2 = some r) :
  Calls Tryd.prog 97 #[.agg #[.int .i64 a0_0, .int .i64 a0_1, .string a0_2]] w fun e w' => e = .returned (.bool r) ∧ Below w.heap.size w w' := by
 have hu106 := Tryd.underlying106
 have HB := Aside0.mk (Below.refl w.heap.size w)
 have H : (if a0_0 = 3 then (if a0_1 = 0 then ((whirligigref01_Plain.f k a0_2).bind fun t1175 => (some t1175)) else (some false)) else (if a0_2.toList = ([] : List UInt8) then (if a0_0 = 1 then (some true) else (if a0_0 = 2 then (if a0_1 = 0 then (some true) else (some (a0_1 == 1))) else (some false))) else (some false))) = some r := h
 clear h
 by_cases c2 : a0_0 = 3
 ·rw [if_pos c2] at H
  have c2b0 := beq_iff_eq.mpr c2
  have c2b1 := bne_eq_false_iff_eq.mpr c2
  clear c2
  by_cases c3 : a0_1 = 0
  ·rw [if_pos c3] at H
   have c3b0 := beq_iff_eq.mpr c3
   have c3b1 := bne_eq_false_iff_eq.mpr c3
   clear c3
   replace H := Option.bind_eq_some_iff.mp H
   obtain ⟨t1175, A40, H⟩ := H
   (try dsimp -simprocs only at H)
   have A4 := Aside0.mk A40
   clear A40
   obtain rfl := Option.some.inj H
   go_enter Tryd.func97, Tryd.ntmps97
   go_wp2_with (first | ((with_reducible refine gd 1 rfl ?_); refine bxx 1 #[.int .i64 a0_0, .int .i64 a0_1, .string a0_2] 106 ?_; intro gb1174 w5 BK1174 GW1174 HB; obtain ⟨_, _, _, _, _, _⟩ := cells3 BK1174.out) | (go_at_call 122; (with_reducible refine (whirligigref01_Plain.calls k a0_2 t1175 _ A4.out).mono ?_); rintro e w' ⟨rfl, ⟨nd, rfl⟩⟩))
   go_ret
   exact ⟨qR, qB⟩
  rw [if_neg c3] at H
  have c3b0 := beq_eq_false_iff_ne.mpr c3
  have c3b1 := bne_iff_ne.mpr c3
  obtain rfl := Option.some.inj H
  go_enter Tryd.func97, Tryd.ntmps97
  go_wp2_with (first | ((with_reducible refine gd 1 rfl ?_); refine bxx 1 #[.int .i64 a0_0, .int .i64 a0_1, .string a0_2] 106 ?_; intro gb1174 w7 BK1174 GW1174 HB; obtain ⟨_, _, _, _, _, _⟩ := cells3 BK1174.out))
  go_ret
  exact ⟨qR, qB⟩
 rw [if_neg c2] at H
 have c2b0 := beq_eq_false_iff_ne.mpr c2
 have c2b1 := bne_iff_ne.mpr c2
 by_cases c9 : a0_2.toList = ([] : List UInt8)
 ·rw [if_pos c9] at H
  have c9b0 := beq_iff_eq.mpr c9
  have c9b1 := bne_eq_false_iff_eq.mpr c9
  clear c9
  by_cases c10 : a0_0 = 1
  ·rw [if_pos c10] at H
   have c10b0 := beq_iff_eq.mpr c10
   have c10b1 := bne_eq_false_iff_eq.mpr c10
   clear c10
   obtain rfl := Option.some.inj H
   go_enter Tryd.func97, Tryd.ntmps97
   go_wp2_with (first | ((with_reducible refine gd 1 rfl ?_); refine bxx 1 #[.int .i64 a0_0, .int .i64 a0_1, .string a0_2] 106 ?_; intro gb1174 w11 BK1174 GW1174 HB; obtain ⟨_, _, _, _, _, _⟩ := cells3 BK1174.out))
   go_ret
   exact ⟨qR, qB⟩
  rw [if_neg c10] at H
  have c10b0 := beq_eq_false_iff_ne.mpr c10
  have c10b1 := bne_iff_ne.mpr c10
  by_cases c13 : a0_0 = 2
  ·rw [if_pos c13] at H
   have c13b0 := beq_iff_eq.mpr c13
   have c13b1 := bne_eq_false_iff_eq.mpr c13
   clear c13
   by_cases c14 : a0_1 = 0
   ·rw [if_pos c14] at H
    have c14b0 := beq_iff_eq.mpr c14
    have c14b1 := bne_eq_false_iff_eq.mpr c14
    clear c14
    obtain rfl := Option.some.inj H
    go_enter Tryd.func97, Tryd.ntmps97
    go_wp2_with (first | ((with_reducible refine gd 1 rfl ?_); refine bxx 1 #[.int .i64 a0_0, .int .i64 a0_1, .string a0_2] 106 ?_; intro gb1174 w15 BK1174 GW1174 HB; obtain ⟨_, _, _, _, _, _⟩ := cells3 BK1174.out))
    go_ret
    exact ⟨qR, qB⟩
   rw [if_neg c14] at H
   have c14b0 := beq_eq_false_iff_ne.mpr c14
   have c14b1 := bne_iff_ne.mpr c14
   obtain rfl := Option.some.inj H
   go_enter Tryd.func97, Tryd.ntmps97
   go_wp2_with (first | ((with_reducible refine gd 1 rfl ?_); refine bxx 1 #[.int .i64 a0_0, .int .i64 a0_1, .string a0_2] 106 ?_; intro gb1174 w17 BK1174 GW1174 HB; obtain ⟨_, _, _, _, _, _⟩ := cells3 BK1174.out))
   go_ret
   exact ⟨qR, qB⟩
  rw [if_neg c13] at H
  have c13b0 := beq_eq_false_iff_ne.mpr c13
  have c13b1 := bne_iff_ne.mpr c13
  obtain rfl := Option.some.inj H
  go_enter Tryd.func97, Tryd.ntmps97
  go_wp2_with (first | ((with_reducible refine gd 1 rfl ?_); refine bxx 1 #[.int .i64 a0_0, .int .i64 a0_1, .string a0_2] 106 ?_; intro gb1174 w19 BK1174 GW1174 HB; obtain ⟨_, _, _, _, _, _⟩ := cells3 BK1174.out))
  go_ret
  exact ⟨qR, qB⟩
 rw [if_neg c9] at H
 have c9b0 := beq_eq_false_iff_ne.mpr c9
 have c9b1 := bne_iff_ne.mpr c9
 obtain rfl := Option.some.inj H
 go_enter Tryd.func97, Tryd.ntmps97
 go_wp2_with (first | ((with_reducible refine gd 1 rfl ?_); refine bxx 1 #[.int .i64 a0_0, .int .i64 a0_1, .string a0_2] 106 ?_; intro gb1174 w21 BK1174 GW1174 HB; obtain ⟨_, _, _, _, _, _⟩ := cells3 BK1174.out))
 go_ret
 exact ⟨qR, qB⟩
end Go.Proofs.YtbngfhlciebeeaaDoor.L
end
