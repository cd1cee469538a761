/- Printed and hand-written steps towards the row (EvalShort), those that it reaches. -/
import Derived.Test.YtbngfhlciebeeaaDoorEvalShortG3
import Derived.Test.YtbngfhlciebeeaaDoorEvalShortG4
import Derived.Test.YtbngfhlciebeeaaDoorEvalShortG15
import Derived.Test.YtbngfhlciebeeaaDoorEvalShortG11
section
namespace Go.Proofs.YtbngfhlciebeeaaDoor.L
open Go.RowKit
theorem less_rev : ∀ x y : List UInt8, (!(Op.bytesLess x y || x == y)) = Op.bytesLess y x
  | [], [] => by simp [Op.bytesLess]
  | [], _ :: _ => by simp [Op.bytesLess]
  | _ :: _, [] => by simp [Op.bytesLess]
  | a :: x, b :: y => by
    have ih := less_rev x y
    simp only [Op.bytesLess]
    by_cases h1 : a < b
    · have h2 : ¬ b < a := by rw [UInt8.lt_iff_toNat_lt] at *; omega
      have h3 : (b == a) = false := beq_eq_false_iff_ne.2 (fun e => by subst e; exact h2 h1)
      simp [h1, h2, h3]
    · by_cases h2 : b < a
      · have h3 : (a == b) = false := beq_eq_false_iff_ne.2 (fun e => by subst e; exact h1 h2)
        have h4 : (a :: x == b :: y) = false := beq_eq_false_iff_ne.2 (fun e => by cases e; exact h1 h2)
        simp [h1, h2, h3, h4]
      · have e : a = b := by
          apply UInt8.toNat_inj.1; rw [UInt8.lt_iff_toNat_lt] at *; omega
        subst e
        have h4 : (a :: x == a :: y) = (x == y) := by simp
        rw [h4]
        simpa [h1] using ih
@[go_sem] theorem binOp_gtr_rev (t : TypeId) (a b : ByteArray) : binOp .gtr t (.string a) (.string b) = pure (.bool (Op.bytesLess b.toList a.toList)) := by
  rw [← less_rev]; simp [binOp, Op.stringOp]
end Go.Proofs.YtbngfhlciebeeaaDoor.L
end
section
namespace Go.Proofs.YtbngfhlciebeeaaDoor.L
open Go.RowKit Go.Proofs.YtbngfhlciebeeaaDoorW.PrintWords Go.Proofs.YtbngfhlciebeeaaDoorW.PrintLast Go.Proofs.YtbngfhlciebeeaaDoorW.PrintMore
attribute [local go_sem] max2_int min2_int max_two min_two max_three min_three max_four min_four   -- for this text's walks alone
set_option linter.unusedVariables false
set_option linter.unusedSimpArgs false
def cmp_isNaN_string.f (a0 : ByteArray) : Option (Bool) := some (a0.toList != a0.toList)
set_option maxHeartbeats 8000000 in
set_option maxRecDepth 100000 in
theorem cmp_isNaN_string.calls (a0 : ByteArray) (r : Bool) (w : World) (h : cmp_isNaN_string.f a0 = some r) :
  Calls Tryd.prog 164 #[.string a0] w fun e w' => e = .returned (.bool r) ∧ Drawn0 w w' := by
 have H : (some (a0.toList != a0.toList)) = some r := h
 clear h
 obtain rfl := Option.some.inj H
 go_enter Tryd.func164, Tryd.ntmps164
 go_wp2
 go_ret
 exact qN
def cmp_Compare_string.f (a0 : ByteArray) (a1 : ByteArray) : Option (Int) := (cmp_isNaN_string.f a0).bind fun t940 => ((cmp_isNaN_string.f a1).bind fun t941 => (if t940 = true then (if t941 = true then (some 0) else (some (-1))) else (if t941 = true then (some 1) else (if (Op.bytesLess a0.toList a1.toList) = true then (some (-1)) else (if (Op.bytesLess a1.toList a0.toList) = true then (some 1) else (some 0))))))
set_option maxHeartbeats 8000000 in
set_option maxRecDepth 100000 in
theorem cmp_Compare_string.calls (a0 : ByteArray) (a1 : ByteArray) (r : Int) (w : World) (h : cmp_Compare_string.f a0 a1 = some r) :
  Calls Tryd.prog 159 #[.string a0, .string a1] w fun e w' => e = .returned (.int .i64 r) ∧ Drawn0 w w' := by
 have H : ((cmp_isNaN_string.f a0).bind fun t940 => ((cmp_isNaN_string.f a1).bind fun t941 => (if t940 = true then (if t941 = true then (some 0) else (some (-1))) else (if t941 = true then (some 1) else (if (Op.bytesLess a0.toList a1.toList) = true then (some (-1)) else (if (Op.bytesLess a1.toList a0.toList) = true then (some 1) else (some 0))))))) = some r := h
 clear h
 replace H := Option.bind_eq_some_iff.mp H
 obtain ⟨t940, A30, H⟩ := H
 (try dsimp -simprocs only at H)
 have A3 := Aside0.mk A30
 clear A30
 replace H := Option.bind_eq_some_iff.mp H
 obtain ⟨t941, A40, H⟩ := H
 (try dsimp -simprocs only at H)
 have A4 := Aside0.mk A40
 clear A40
 by_cases c5 : t940 = true
 ·subst c5
  rw [if_pos rfl] at H
  by_cases c6 : t941 = true
  ·subst c6
   rw [if_pos rfl] at H
   obtain rfl := Option.some.inj H
   go_enter Tryd.func159, Tryd.ntmps159
   go_wp2_with (first | ((with_reducible refine gc 164 rfl ?_); refine gl (some 8) #[.string a0] Tryd.func164 ?_; (with_reducible refine (cmp_isNaN_string.calls a0 true _ A3.out).mono ?_); rintro e w' ⟨rfl, ⟨nd, rfl⟩⟩; refine ⟨_, rfl, ?_⟩) | ((with_reducible refine gc 164 rfl ?_); refine gl (some 10) #[.string a1] Tryd.func164 ?_; (with_reducible refine (cmp_isNaN_string.calls a1 true _ A4.out).mono ?_); rintro e w' ⟨rfl, ⟨nd, rfl⟩⟩; refine ⟨_, rfl, ?_⟩))
   go_ret
   exact qN
  replace c6 := Bool.eq_false_iff.mpr c6
  subst c6
  rw [if_neg (show ¬ (false = true) by decide)] at H
  obtain rfl := Option.some.inj H
  go_enter Tryd.func159, Tryd.ntmps159
  go_wp2_with (first | ((with_reducible refine gc 164 rfl ?_); refine gl (some 8) #[.string a0] Tryd.func164 ?_; (with_reducible refine (cmp_isNaN_string.calls a0 true _ A3.out).mono ?_); rintro e w' ⟨rfl, ⟨nd, rfl⟩⟩; refine ⟨_, rfl, ?_⟩) | ((with_reducible refine gc 164 rfl ?_); refine gl (some 10) #[.string a1] Tryd.func164 ?_; (with_reducible refine (cmp_isNaN_string.calls a1 false _ A4.out).mono ?_); rintro e w' ⟨rfl, ⟨nd, rfl⟩⟩; refine ⟨_, rfl, ?_⟩))
  go_ret
  exact qN
 replace c5 := Bool.eq_false_iff.mpr c5
 subst c5
 rw [if_neg (show ¬ (false = true) by decide)] at H
 by_cases c7 : t941 = true
 ·subst c7
  rw [if_pos rfl] at H
  obtain rfl := Option.some.inj H
  go_enter Tryd.func159, Tryd.ntmps159
  go_wp2_with (first | ((with_reducible refine gc 164 rfl ?_); refine gl (some 8) #[.string a0] Tryd.func164 ?_; (with_reducible refine (cmp_isNaN_string.calls a0 false _ A3.out).mono ?_); rintro e w' ⟨rfl, ⟨nd, rfl⟩⟩; refine ⟨_, rfl, ?_⟩) | ((with_reducible refine gc 164 rfl ?_); refine gl (some 10) #[.string a1] Tryd.func164 ?_; (with_reducible refine (cmp_isNaN_string.calls a1 true _ A4.out).mono ?_); rintro e w' ⟨rfl, ⟨nd, rfl⟩⟩; refine ⟨_, rfl, ?_⟩))
  go_ret
  exact qN
 replace c7 := Bool.eq_false_iff.mpr c7
 subst c7
 rw [if_neg (show ¬ (false = true) by decide)] at H
 by_cases c8 : (Op.bytesLess a0.toList a1.toList) = true
 ·rw [if_pos c8] at H
  have c8b0 : (Op.bytesLess a0.toList a1.toList) = true := c8
  clear c8
  obtain rfl := Option.some.inj H
  go_enter Tryd.func159, Tryd.ntmps159
  go_wp2_with (first | ((with_reducible refine gc 164 rfl ?_); refine gl (some 8) #[.string a0] Tryd.func164 ?_; (with_reducible refine (cmp_isNaN_string.calls a0 false _ A3.out).mono ?_); rintro e w' ⟨rfl, ⟨nd, rfl⟩⟩; refine ⟨_, rfl, ?_⟩) | ((with_reducible refine gc 164 rfl ?_); refine gl (some 10) #[.string a1] Tryd.func164 ?_; (with_reducible refine (cmp_isNaN_string.calls a1 false _ A4.out).mono ?_); rintro e w' ⟨rfl, ⟨nd, rfl⟩⟩; refine ⟨_, rfl, ?_⟩))
  go_ret
  exact qN
 rw [if_neg c8] at H
 have c8b0 : (Op.bytesLess a0.toList a1.toList) = false := by simpa using c8
 clear c8
 by_cases c9 : (Op.bytesLess a1.toList a0.toList) = true
 ·rw [if_pos c9] at H
  have c9b0 : (Op.bytesLess a1.toList a0.toList) = true := c9
  clear c9
  obtain rfl := Option.some.inj H
  go_enter Tryd.func159, Tryd.ntmps159
  go_wp2_with (first | ((with_reducible refine gc 164 rfl ?_); refine gl (some 8) #[.string a0] Tryd.func164 ?_; (with_reducible refine (cmp_isNaN_string.calls a0 false _ A3.out).mono ?_); rintro e w' ⟨rfl, ⟨nd, rfl⟩⟩; refine ⟨_, rfl, ?_⟩) | ((with_reducible refine gc 164 rfl ?_); refine gl (some 10) #[.string a1] Tryd.func164 ?_; (with_reducible refine (cmp_isNaN_string.calls a1 false _ A4.out).mono ?_); rintro e w' ⟨rfl, ⟨nd, rfl⟩⟩; refine ⟨_, rfl, ?_⟩))
  go_ret
  exact qN
 rw [if_neg c9] at H
 have c9b0 : (Op.bytesLess a1.toList a0.toList) = false := by simpa using c9
 clear c9
 obtain rfl := Option.some.inj H
 go_enter Tryd.func159, Tryd.ntmps159
 go_wp2_with (first | ((with_reducible refine gc 164 rfl ?_); refine gl (some 8) #[.string a0] Tryd.func164 ?_; (with_reducible refine (cmp_isNaN_string.calls a0 false _ A3.out).mono ?_); rintro e w' ⟨rfl, ⟨nd, rfl⟩⟩; refine ⟨_, rfl, ?_⟩) | ((with_reducible refine gc 164 rfl ?_); refine gl (some 10) #[.string a1] Tryd.func164 ?_; (with_reducible refine (cmp_isNaN_string.calls a1 false _ A4.out).mono ?_); rintro e w' ⟨rfl, ⟨nd, rfl⟩⟩; refine ⟨_, rfl, ?_⟩))
 go_ret
 exact qN
def val_compare.f (k : Nat) (a0_0 : Int) (a0_1 : Int) (a0_2 : ByteArray) (a1_0 : Int) (a1_1 : Int) (a1_2 : ByteArray) : Option (Int) := (cmp_Compare_int64.f a0_1 a1_1).bind fun t944 => ((cmp_Compare_string.f a0_2 a1_2).bind fun t945 => ((cmp_Or_int.f k (([t944, t945] : List Int))).bind fun t949 => (some t949)))
def val_compare.T1 : Bool × List (List Nat × List Nat) := (true, [([], []), ([0], [0]), ([], []), ([2], [2]), ([1, 3], [1, 3]), ([], []), ([5], [5]), ([], []), ([7], [7]), ([6, 8, 4], [6, 8]), ([4, 9], [4, 9]), ([10, 9], [10]), ([11, 11, 0, 1, 2, 3, 4, 5, 6, 7, 8, 9, 10, 11], [11])])
def val_compare.B1 : List Nat := [0, 1, 0, 4, 15, 0, 32, 0, 128, 511, 1023, 2047, 4095]
theorem val_compare.tab1 : rtab .any (opsOf Tryd.f148 1) = val_compare.T1 := by kernel_rfl
theorem val_compare.bits1 : waitsOk val_compare.T1.2 val_compare.B1 = true := by kernel_rfl
set_option maxHeartbeats 8000000 in
set_option maxRecDepth 100000 in
theorem val_compare.calls (k : Nat) (a0_0 : Int) (a0_1 : Int) (a0_2 : ByteArray) (a1_0 : Int) (a1_1 : Int) (a1_2 : ByteArray) (r : Int) (w : World) (h : val_compare.f k a0_0 a0_1 a0_2 a1_0 a1_1 a1_2 = some r) :
  Calls Tryd.prog 148 #[.agg #[.int .i64 a0_0, .int .i64 a0_1, .string a0_2], .agg #[.int .i64 a1_0, .int .i64 a1_1, .string a1_2]] w fun e w' => e = .returned (.int .i64 r) ∧ Below w.heap.size w w' := by
 have hu103 := Tryd.underlying103
 have HB := Aside0.mk (Below.refl w.heap.size w)
 have H : ((cmp_Compare_int64.f a0_1 a1_1).bind fun t944 => ((cmp_Compare_string.f a0_2 a1_2).bind fun t945 => ((cmp_Or_int.f k (([t944, t945] : List Int))).bind fun t949 => (some t949)))) = some r := h
 clear h
 replace H := Option.bind_eq_some_iff.mp H
 obtain ⟨t944, A30, H⟩ := H
 (try dsimp -simprocs only at H)
 have A3 := Aside0.mk A30
 clear A30
 replace H := Option.bind_eq_some_iff.mp H
 obtain ⟨t945, A40, H⟩ := H
 (try dsimp -simprocs only at H)
 have A4 := Aside0.mk A40
 clear A40
 obtain ⟨y946, hy946⟩ : ∃ y_ : List Int, y_ = (([t944, t945] : List Int)) := ⟨_, rfl⟩
 replace H : ((cmp_Or_int.f k y946).bind fun t949 => (some t949)) = some r := by first | (rw [hy946]; with_reducible exact H) | (have H2_ := (Option.bind_some _ _).symm.trans H; rw [hy946]; with_reducible exact H2_) | (have H2_ := (Option.bind_some _ _).symm.trans H; with_reducible exact H2_) | with_reducible exact H | (rw [hy946]; exact H) | exact H
 have Ny946 := Aside0.mk hy946
 clear hy946
 replace H := Option.bind_eq_some_iff.mp H
 obtain ⟨t949, A50, H⟩ := H
 (try dsimp -simprocs only at H)
 have A5 := Aside0.mk A50
 clear A50
 obtain rfl := Option.some.inj H
 go_enter Tryd.func148, Tryd.ntmps148
 try go_wp2_with (first | ((with_reducible refine gd 2 rfl ?_); refine bxx 2 #[.int .i64 a0_0, .int .i64 a0_1, .string a0_2] 103 ?_; intro gb942 w6 BK942 GW942 HB) | ((with_reducible refine gd 3 rfl ?_); refine bx 3 #[.int .i64 a1_0, .int .i64 a1_1, .string a1_2] 103 ?_; intro gb943 hg w7 hbox hb; have BK943 := Aside0.mk (hbox); have GW943 := geS hg; have GE943 := geS hg; have NB942_943 := neS gb942 hg; have NB943_942 := neT gb942 hg; replace BK942 := kb gb942 hb; replace HB := bst hb; clear hb hbox hg))
 replace BK942 := Aside0.mk (blk_drew BK942.out)
 replace BK943 := Aside0.mk (blk_drew BK943.out)
 replace HB := Aside0.mk (below_drew1 HB.out)
 refine start_ (n := 13) (S := fun w' => w'.cell? ⟨gb942, 0, none⟩ = some (.int .i64 a0_0) ∧ w'.cell? ⟨gb942, 1, none⟩ = some (.int .i64 a0_1) ∧ w'.cell? ⟨gb942, 2, none⟩ = some (.string a0_2) ∧ w'.cell? ⟨gb943, 0, none⟩ = some (.int .i64 a1_0) ∧ w'.cell? ⟨gb943, 1, none⟩ = some (.int .i64 a1_1) ∧ w'.cell? ⟨gb943, 2, none⟩ = some (.string a1_2)) (ds := []) _ (by kernel_rfl) rfl (fls 13) ⟨(blk_cell BK942.out 0).trans rfl, (blk_cell BK942.out 1).trans rfl, (blk_cell BK942.out 2).trans rfl, (blk_cell BK943.out 0).trans rfl, (blk_cell BK943.out 1).trans rfl, (blk_cell BK943.out 2).trans rfl⟩ (fun hHeld => ?_); refine with_tabW val_compare.tab1 val_compare.bits1 (fun HT_ HW_ => ?_)
 generalize w7.drew = w8 at BK942 BK943 HB hHeld ⊢
 refine pu 0 5 ?_; refine pu 2 7 ?_
 refine pu 5 10 ?_; refine pu 7 12 ?_
 refine tk 1 6 ?_; refine tk 3 8 ?_
 refine tk 6 11 ?_; refine tk 8 13 ?_
 refine onx 4 9 (fun K hK => ?_)
 refine goes_ Tryd.func158 (by kernel_rfl) rfl #[.int .i64 a0_1, .int .i64 a1_1] (by rfl) rfl rfl (by (try simp only [List.map_toArray, List.map_cons, List.map_nil]); first | done | rfl | (simp only [List.length_drop, List.length_take]; rfl)) ?_
 with_reducible refine (cmp_Compare_int64.calls a0_1 a1_1 t944 _ A3.out).mono ?_
 rintro e w' ⟨rfl, ⟨nd, rfl⟩⟩
 refine ⟨_, rfl, ?_⟩
 refine hK.out _ _ ⟨(blk_cell BK942.out 0).trans rfl, (blk_cell BK942.out 1).trans rfl, (blk_cell BK942.out 2).trans rfl, (blk_cell BK943.out 0).trans rfl, (blk_cell BK943.out 1).trans rfl, (blk_cell BK943.out 2).trans rfl⟩ (fun hHeld => ?_)
 clear hK K
 refine nm 9 ?_
 refine onx 9 14 (fun K hK => ?_)
 refine goes_ Tryd.func159 (by kernel_rfl) rfl #[.string a0_2, .string a1_2] (by rfl) rfl rfl (by (try simp only [List.map_toArray, List.map_cons, List.map_nil]); first | done | rfl | (simp only [List.length_drop, List.length_take]; rfl)) ?_
 with_reducible refine (cmp_Compare_string.calls a0_2 a1_2 t945 _ A4.out).mono ?_
 rintro e w' ⟨rfl, ⟨nd, rfl⟩⟩
 refine ⟨_, rfl, ?_⟩
 refine hK.out _ _ ⟨(blk_cell BK942.out 0).trans rfl, (blk_cell BK942.out 1).trans rfl, (blk_cell BK942.out 2).trans rfl, (blk_cell BK943.out 0).trans rfl, (blk_cell BK943.out 1).trans rfl, (blk_cell BK943.out 2).trans rfl⟩ (fun hHeld => ?_)
 clear hK K
 refine nm 14 ?_
 refine onx 10 15 (fun K hK => ?_)
 refine Kd.R_lit_step (Kd.int .i64) _ 3 ?hg (N := 15) ?hd (xs := ([t944, t945] : List Int)) (inner := [.int .i64 t944, .int .i64 t945]) (ok := fun _ => True) (okp := fun _ => True) ?hr ?hp (fun _ hk => hk) trivial (Below.refl _ _) (Nat.le_refl _) (by simp) ?_; (case hd => rfl); (case hg => rfl); (case hr => first | (go_simp; done) | (go_simp; rfl)); (case hp => exact (Reps.one (show Kd.M (Kd.int .i64) _ _ _ t944 [.int .i64 t944] from rfl) (Reps.one (show Kd.M (Kd.int .i64) _ _ _ t945 [.int .i64 t945] from rfl) (Reps.none _ _))))
 intro v947 w9 ho10 hb hg_ hnew_
 clear hg_ hnew_
 (first | rw [← Ny946.out] at ho10 | (simp only [Int.reduceToNat] at ho10; rw [← Ny946.out] at ho10))
 have HO948 := Aside0.mk (Kd.R_lower ho10 (below_size qB))
 replace BK942 := kb gb942 hb
 replace BK943 := kb gb943 hb
 replace HB := bst hb
 clear hb ho10
 obtain ⟨Ao11, co11, eo11⟩ := Kd.R_slice HO948.out
 (first | subst eo11 | (injection eo11 with f1_ f2_ f3_; have f4_ := f1_.symm; have f5_ := f3_.symm; clear f1_ f2_ f3_; subst f4_; subst f5_))
 refine hK.out _ _ ⟨(blk_cell BK942.out 0).trans rfl, (blk_cell BK942.out 1).trans rfl, (blk_cell BK942.out 2).trans rfl, (blk_cell BK943.out 0).trans rfl, (blk_cell BK943.out 1).trans rfl, (blk_cell BK943.out 2).trans rfl⟩ (fun hHeld => ?_)
 clear hK K
 refine nm 15 ?_
 refine onx 11 16 (fun K hK => ?_)
 refine goes_ Tryd.func157 (by kernel_rfl) rfl #[.slice Ao11 y946.length co11] (by rfl) rfl rfl (by (try simp only [List.map_toArray, List.map_cons, List.map_nil]); first | done | rfl | (simp only [List.length_drop, List.length_take]; rfl)) ?_
 with_reducible refine (cmp_Or_int.calls k _ _ y946 t949 _ ?side1 ?side2 A5.out).mono ?_
 (case side1 => exact cr HO948)
 (case side2 => exact (Kd.R_reads' HO948.out).2.1)
 rintro e w' ⟨rfl, ⟨nd, rfl⟩⟩
 refine ⟨_, rfl, ?_⟩
 refine hK.out _ _ ⟨(blk_cell BK942.out 0).trans rfl, (blk_cell BK942.out 1).trans rfl, (blk_cell BK942.out 2).trans rfl, (blk_cell BK943.out 0).trans rfl, (blk_cell BK943.out 1).trans rfl, (blk_cell BK943.out 2).trans rfl⟩ (fun hHeld => ?_)
 clear hK K
 refine nm 16 ?_
 refine pu 12 4 ?_
 refine done_ (done_of HT_.out (by kernel_rfl)) ?_
 try go_wp2
 go_ret
 exact ⟨qR, qB⟩
def val_join.f (a0 : ByteArray) (a1 : ByteArray) : Option (Int × Int × ByteArray × Int) := if (wrap64 ((a0.size : Int) + (a1.size : Int))) > 48 then (some (0, 0, (⟨#[]⟩ : ByteArray), 15)) else (if a0.size + a1.size ≤ 9223372036854775807 then ((val_Word.f (a0 ++ a1)).bind fun bt951 => (some (bt951.1, bt951.2.1, bt951.2.2, 0))) else (none))
set_option maxHeartbeats 8000000 in
set_option maxRecDepth 100000 in
theorem val_join.calls (a0 : ByteArray) (a1 : ByteArray) (r1 : Int) (r2 : Int) (r3 : ByteArray) (r4 : Int) (w : World) (h : val_join.f a0 a1 = some (r1, r2, r3, r4)) :
  Calls Tryd.prog 149 #[.string a0, .string a1] w fun e w' => e = .returned (.tuple #[.agg #[.int .i64 r1, .int .i64 r2, .string r3], .int .i64 r4]) ∧ Below w.heap.size w w' := by
 have hu103 := Tryd.underlying103
 have HB := Aside0.mk (Below.refl w.heap.size w)
 have H : (if (wrap64 ((a0.size : Int) + (a1.size : Int))) > 48 then (some (0, 0, (⟨#[]⟩ : ByteArray), 15)) else (if a0.size + a1.size ≤ 9223372036854775807 then ((val_Word.f (a0 ++ a1)).bind fun bt951 => (some (bt951.1, bt951.2.1, bt951.2.2, 0))) else (none))) = some (r1, r2, r3, r4) := h
 clear h
 replace H := iD H
 rcases H with ⟨c3b0, H⟩ | ⟨c3b0, H⟩
 ·simp only [Option.some.injEq, Prod.mk.injEq] at H
  obtain ⟨rfl, rfl, rfl, rfl⟩ := H
  go_enter Tryd.func149, Tryd.ntmps149
  go_wp2_with (first | ((with_reducible refine gd 4 rfl ?_); refine bxx 4 #[.int .i64 0, .int .i64 0, .string (⟨#[]⟩ : ByteArray)] 103 ?_; intro gb950 w4 BK950 GW950 HB; obtain ⟨_, _, _, _, _, _⟩ := cells3 BK950.out))
  refine rct gb950 103 #[.int .i64 0, .int .i64 0, .string (⟨#[]⟩ : ByteArray)] Tryd.underlying103 ?_
  exact ⟨qR, qB⟩
 by_cases c6 : a0.size + a1.size ≤ 9223372036854775807
 ·rw [if_pos c6] at H
  have c6b0 := eq_true c6
  have c6b1 := decide_eq_true c6
  try have c6b2 : (9223372036854775807 < a0.size + a1.size) = False := eq_false (Nat.not_lt.2 c6)
  have c6w : wrap64 ((a0.size : Int) + (a1.size : Int)) = (a0.size : Int) + (a1.size : Int) := by unfold wrap64; omega
  have c6u := c3b0
  rw [c6w] at c6u
  replace c6u := of_decide_eq_false c6u
  replace H := Option.bind_eq_some_iff.mp H
  obtain ⟨⟨t951, t952, t953⟩, A70, H⟩ := H
  (try dsimp -simprocs only at H)
  have A7 := Aside0.mk A70
  clear A70
  simp only [Option.some.injEq, Prod.mk.injEq] at H
  obtain ⟨rfl, rfl, rfl, rfl⟩ := H
  go_enter Tryd.func149, Tryd.ntmps149
  go_wp2_with (first | ((with_reducible refine gd 4 rfl ?_); refine bxx 4 #[.int .i64 0, .int .i64 0, .string (⟨#[]⟩ : ByteArray)] 103 ?_; intro gb950 w8 BK950 GW950 HB) | ((with_reducible refine gc 160 rfl ?_); refine gl (some 16) #[.string (a0 ++ a1)] Tryd.func160 ?_; (with_reducible refine (val_Word.calls (a0 ++ a1) t951 t952 t953 _ A7.out).mono ?_); rintro e w9 ⟨rfl, hb⟩; refine ⟨_, rfl, ?_⟩; replace BK950 := kb gb950 hb; replace HB := bst hb; (try clear hb); obtain ⟨_, _, _, _, _, _⟩ := cells3 BK950.out))
  refine rct gb950 103 #[.int .i64 t951, .int .i64 t952, .string t953] Tryd.underlying103 ?_
  exact ⟨qR, qB⟩
 rw [if_neg c6] at H
 exact absurd H (by simp)
end Go.Proofs.YtbngfhlciebeeaaDoor.L
end
