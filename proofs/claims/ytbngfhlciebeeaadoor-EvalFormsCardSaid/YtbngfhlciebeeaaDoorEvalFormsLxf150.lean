/- Printed and hand-written steps towards the row (EvalForms), those that it reaches. -/
import Derived.Test.YtbngfhlciebeeaaDoorEvalFormsG4
import Derived.Test.YtbngfhlciebeeaaDoorEvalFormsG5
import Derived.Test.YtbngfhlciebeeaaDoorEvalFormsG24
import Derived.Test.YtbngfhlciebeeaaDoorEvalFormsG28
namespace Go.Proofs.YtbngfhlciebeeaaDoor.L
open Go.RowKit Go.Proofs.YtbngfhlciebeeaaDoorW.PrintWords Go.Proofs.YtbngfhlciebeeaaDoorW.PrintLast Go.Proofs.YtbngfhlciebeeaaDoorW.PrintMore
attribute [local go_sem] max2_int min2_int max_two min_two max_three min_three max_four min_four   -- for this text's walks alone
set_option linter.unusedVariables false
set_option linter.unusedSimpArgs false
def val_number.j0 : Nat → Int → Int → Int → Bool → Option (Int × Int × ByteArray × Int)
 | 0, _, _, _, _ => none
 | k + 1, x0, x1, x2, x104 => if x104 = true then ((val_Of.f 0).bind fun bt1039 => (some (bt1039.1, bt1039.2.1, bt1039.2.2, 0))) else (if x0 = 5 then (if x2 = 0 then (none) else ((val_Of.f (Int.tmod x1 x2)).bind fun bt1042 => (some (bt1042.1, bt1042.2.1, bt1042.2.2, 0)))) else (if x2 = (-1) then ((val_over.f (wrap64 (-x1)) (x1 == (-9223372036854775808))).bind fun bt1045 => (some (bt1045.1, bt1045.2.1, bt1045.2.2.1, bt1045.2.2.2))) else (if x2 = 0 then (none) else ((val_Of.f (wrap64 (Int.tdiv x1 x2))).bind fun bt1049 => (some (bt1049.1, bt1049.2.1, bt1049.2.2, 0))))))
def val_number.f (k : Nat) (a0 : Int) (a1 : Int) (a2 : Int) : Option (Int × Int × ByteArray × Int) := if a0 = 6 then (if a2 > 0 then (if (wrap64 (a1 + a2)) < a1 then ((val_over.f (wrap64 (a1 + a2)) true).bind fun bt955 => (some (bt955.1, bt955.2.1, bt955.2.2.1, bt955.2.2.2))) else (if a2 < 0 then ((val_over.f (wrap64 (a1 + a2)) (decide ((wrap64 (a1 + a2)) > a1))).bind fun bt959 => (some (bt959.1, bt959.2.1, bt959.2.2.1, bt959.2.2.2))) else ((val_over.f (wrap64 (a1 + a2)) false).bind fun bt963 => (some (bt963.1, bt963.2.1, bt963.2.2.1, bt963.2.2.2))))) else (if a2 < 0 then ((val_over.f (wrap64 (a1 + a2)) (decide ((wrap64 (a1 + a2)) > a1))).bind fun bt967 => (some (bt967.1, bt967.2.1, bt967.2.2.1, bt967.2.2.2))) else ((val_over.f (wrap64 (a1 + a2)) false).bind fun bt971 => (some (bt971.1, bt971.2.1, bt971.2.2.1, bt971.2.2.2))))) else (if a0 = 7 then (if a2 < 0 then (if (wrap64 (a1 - a2)) < a1 then ((val_over.f (wrap64 (a1 - a2)) true).bind fun bt975 => (some (bt975.1, bt975.2.1, bt975.2.2.1, bt975.2.2.2))) else (if a2 > 0 then ((val_over.f (wrap64 (a1 - a2)) (decide ((wrap64 (a1 - a2)) > a1))).bind fun bt979 => (some (bt979.1, bt979.2.1, bt979.2.2.1, bt979.2.2.2))) else ((val_over.f (wrap64 (a1 - a2)) false).bind fun bt983 => (some (bt983.1, bt983.2.1, bt983.2.2.1, bt983.2.2.2))))) else (if a2 > 0 then ((val_over.f (wrap64 (a1 - a2)) (decide ((wrap64 (a1 - a2)) > a1))).bind fun bt987 => (some (bt987.1, bt987.2.1, bt987.2.2.1, bt987.2.2.2))) else ((val_over.f (wrap64 (a1 - a2)) false).bind fun bt991 => (some (bt991.1, bt991.2.1, bt991.2.2.1, bt991.2.2.2))))) else (if a0 = 3 then (if a1 = (-1) then (if a2 = (-9223372036854775808) then ((val_over.f (wrap64 (a1 * a2)) true).bind fun bt995 => (some (bt995.1, bt995.2.1, bt995.2.2.1, bt995.2.2.2))) else (if a2 = (-1) then (if a1 = (-9223372036854775808) then ((val_over.f (wrap64 (a1 * a2)) true).bind fun bt999 => (some (bt999.1, bt999.2.1, bt999.2.2.1, bt999.2.2.2))) else (if a1 = 0 then ((val_over.f (wrap64 (a1 * a2)) false).bind fun bt1003 => (some (bt1003.1, bt1003.2.1, bt1003.2.2.1, bt1003.2.2.2))) else ((val_over.f (wrap64 (a1 * a2)) false).bind fun bt1007 => (some (bt1007.1, bt1007.2.1, bt1007.2.2.1, bt1007.2.2.2))))) else (if a1 = 0 then ((val_over.f (wrap64 (a1 * a2)) false).bind fun bt1011 => (some (bt1011.1, bt1011.2.1, bt1011.2.2.1, bt1011.2.2.2))) else ((val_over.f (wrap64 (a1 * a2)) false).bind fun bt1015 => (some (bt1015.1, bt1015.2.1, bt1015.2.2.1, bt1015.2.2.2)))))) else (if a2 = (-1) then (if a1 = (-9223372036854775808) then ((val_over.f (wrap64 (a1 * a2)) true).bind fun bt1019 => (some (bt1019.1, bt1019.2.1, bt1019.2.2.1, bt1019.2.2.2))) else (if a1 = 0 then ((val_over.f (wrap64 (a1 * a2)) false).bind fun bt1023 => (some (bt1023.1, bt1023.2.1, bt1023.2.2.1, bt1023.2.2.2))) else ((val_over.f (wrap64 (a1 * a2)) ((wrap64 (Int.tdiv (wrap64 (a1 * a2)) a1)) != a2)).bind fun bt1027 => (some (bt1027.1, bt1027.2.1, bt1027.2.2.1, bt1027.2.2.2))))) else (if a1 = 0 then ((val_over.f (wrap64 (a1 * a2)) false).bind fun bt1031 => (some (bt1031.1, bt1031.2.1, bt1031.2.2.1, bt1031.2.2.2))) else ((val_over.f (wrap64 (a1 * a2)) ((wrap64 (Int.tdiv (wrap64 (a1 * a2)) a1)) != a2)).bind fun bt1035 => (some (bt1035.1, bt1035.2.1, bt1035.2.2.1, bt1035.2.2.2)))))) else (if a2 = 0 then (some (0, 0, (⟨#[]⟩ : ByteArray), 22)) else (if a0 = 5 then (val_number.j0 k a0 a1 a2 (a2 == (-1))) else (val_number.j0 k a0 a1 a2 false)))))
set_option maxHeartbeats 8000000 in
set_option maxRecDepth 100000 in
theorem val_number.calls (k : Nat) (a0 : Int) (a1 : Int) (a2 : Int) (r1 : Int) (r2 : Int) (r3 : ByteArray) (r4 : Int) (w : World) (h : val_number.f k a0 a1 a2 = some (r1, r2, r3, r4)) :
  Calls Tryd.prog 150 #[.int .i64 a0, .int .i64 a1, .int .i64 a2] w fun e w' => e = .returned (.tuple #[.agg #[.int .i64 r1, .int .i64 r2, .string r3], .int .i64 r4]) ∧ Below w.heap.size w w' := by
 have hu103 := Tryd.underlying103
 have HB := Aside0.mk (Below.refl w.heap.size w)
 have H : (if a0 = 6 then (if a2 > 0 then (if (wrap64 (a1 + a2)) < a1 then ((val_over.f (wrap64 (a1 + a2)) true).bind fun bt955 => (some (bt955.1, bt955.2.1, bt955.2.2.1, bt955.2.2.2))) else (if a2 < 0 then ((val_over.f (wrap64 (a1 + a2)) (decide ((wrap64 (a1 + a2)) > a1))).bind fun bt959 => (some (bt959.1, bt959.2.1, bt959.2.2.1, bt959.2.2.2))) else ((val_over.f (wrap64 (a1 + a2)) false).bind fun bt963 => (some (bt963.1, bt963.2.1, bt963.2.2.1, bt963.2.2.2))))) else (if a2 < 0 then ((val_over.f (wrap64 (a1 + a2)) (decide ((wrap64 (a1 + a2)) > a1))).bind fun bt967 => (some (bt967.1, bt967.2.1, bt967.2.2.1, bt967.2.2.2))) else ((val_over.f (wrap64 (a1 + a2)) false).bind fun bt971 => (some (bt971.1, bt971.2.1, bt971.2.2.1, bt971.2.2.2))))) else (if a0 = 7 then (if a2 < 0 then (if (wrap64 (a1 - a2)) < a1 then ((val_over.f (wrap64 (a1 - a2)) true).bind fun bt975 => (some (bt975.1, bt975.2.1, bt975.2.2.1, bt975.2.2.2))) else (if a2 > 0 then ((val_over.f (wrap64 (a1 - a2)) (decide ((wrap64 (a1 - a2)) > a1))).bind fun bt979 => (some (bt979.1, bt979.2.1, bt979.2.2.1, bt979.2.2.2))) else ((val_over.f (wrap64 (a1 - a2)) false).bind fun bt983 => (some (bt983.1, bt983.2.1, bt983.2.2.1, bt983.2.2.2))))) else (if a2 > 0 then ((val_over.f (wrap64 (a1 - a2)) (decide ((wrap64 (a1 - a2)) > a1))).bind fun bt987 => (some (bt987.1, bt987.2.1, bt987.2.2.1, bt987.2.2.2))) else ((val_over.f (wrap64 (a1 - a2)) false).bind fun bt991 => (some (bt991.1, bt991.2.1, bt991.2.2.1, bt991.2.2.2))))) else (if a0 = 3 then (if a1 = (-1) then (if a2 = (-9223372036854775808) then ((val_over.f (wrap64 (a1 * a2)) true).bind fun bt995 => (some (bt995.1, bt995.2.1, bt995.2.2.1, bt995.2.2.2))) else (if a2 = (-1) then (if a1 = (-9223372036854775808) then ((val_over.f (wrap64 (a1 * a2)) true).bind fun bt999 => (some (bt999.1, bt999.2.1, bt999.2.2.1, bt999.2.2.2))) else (if a1 = 0 then ((val_over.f (wrap64 (a1 * a2)) false).bind fun bt1003 => (some (bt1003.1, bt1003.2.1, bt1003.2.2.1, bt1003.2.2.2))) else ((val_over.f (wrap64 (a1 * a2)) false).bind fun bt1007 => (some (bt1007.1, bt1007.2.1, bt1007.2.2.1, bt1007.2.2.2))))) else (if a1 = 0 then ((val_over.f (wrap64 (a1 * a2)) false).bind fun bt1011 => (some (bt1011.1, bt1011.2.1, bt1011.2.2.1, bt1011.2.2.2))) else ((val_over.f (wrap64 (a1 * a2)) false).bind fun bt1015 => (some (bt1015.1, bt1015.2.1, bt1015.2.2.1, bt1015.2.2.2)))))) else (if a2 = (-1) then (if a1 = (-9223372036854775808) then ((val_over.f (wrap64 (a1 * a2)) true).bind fun bt1019 => (some (bt1019.1, bt1019.2.1, bt1019.2.2.1, bt1019.2.2.2))) else (if a1 = 0 then ((val_over.f (wrap64 (a1 * a2)) false).bind fun bt1023 => (some (bt1023.1, bt1023.2.1, bt1023.2.2.1, bt1023.2.2.2))) else ((val_over.f (wrap64 (a1 * a2)) ((wrap64 (Int.tdiv (wrap64 (a1 * a2)) a1)) != a2)).bind fun bt1027 => (some (bt1027.1, bt1027.2.1, bt1027.2.2.1, bt1027.2.2.2))))) else (if a1 = 0 then ((val_over.f (wrap64 (a1 * a2)) false).bind fun bt1031 => (some (bt1031.1, bt1031.2.1, bt1031.2.2.1, bt1031.2.2.2))) else ((val_over.f (wrap64 (a1 * a2)) ((wrap64 (Int.tdiv (wrap64 (a1 * a2)) a1)) != a2)).bind fun bt1035 => (some (bt1035.1, bt1035.2.1, bt1035.2.2.1, bt1035.2.2.2)))))) else (if a2 = 0 then (some (0, 0, (⟨#[]⟩ : ByteArray), 22)) else (if a0 = 5 then (val_number.j0 k a0 a1 a2 (a2 == (-1))) else (val_number.j0 k a0 a1 a2 false)))))) = some (r1, r2, r3, r4) := h
 clear h
 by_cases c4 : a0 = 6
 ·rw [if_pos c4] at H
  have c4b0 := beq_iff_eq.mpr c4
  have c4b1 := bne_eq_false_iff_eq.mpr c4
  clear c4
  replace H := iD H
  rcases H with ⟨c5b0, H⟩ | ⟨c5b0, H⟩
  ·by_cases c6 : (wrap64 (a1 + a2)) < a1
   ·rw [if_pos c6] at H
    have c6b0 := decide_eq_true c6
    clear c6
    replace H := Option.bind_eq_some_iff.mp H
    obtain ⟨⟨t955, t956, t957, t958⟩, A70, H⟩ := H
    (try dsimp -simprocs only at H)
    have A7 := Aside0.mk A70
    clear A70
    simp only [Option.some.injEq, Prod.mk.injEq] at H
    obtain ⟨rfl, rfl, rfl, rfl⟩ := H
    go_enter Tryd.func150, Tryd.ntmps150
    go_wp2_with (first | ((with_reducible refine gd 6 rfl ?_); refine bx 6 #[.int .i64 0, .int .i64 0, .string (⟨#[]⟩ : ByteArray)] 103 ?_; intro gb954 hg w8 hbox hb; have BK954 := Aside0.mk (hbox); have GW954 := geS hg; have GE954 := geS hg; replace HB := bst hb; clear hb hbox hg) | ((with_reducible refine gc 146 rfl ?_); refine gl (some 34) #[.int .i64 (wrap64 (a1 + a2)), .bool true] Tryd.func146 ?_; (with_reducible refine (val_over.calls (wrap64 (a1 + a2)) true t955 t956 t957 t958 _ A7.out).mono ?_); rintro e w9 ⟨rfl, hb⟩; refine ⟨_, rfl, ?_⟩; replace BK954 := kb gb954 hb; replace HB := bst hb; (try clear hb); obtain ⟨hcz10_0, hcz10_1, hcz10_2, hfz10_0, hfz10_1, hfz10_2⟩ := cells3 BK954.out))
    refine bodyPost_ret (results_ct rfl _ _ gb954 103 #[.int .i64 t955, .int .i64 t956, .string t957] (0, 0) _ rfl qP Tryd.underlying103 rfl (by kernel_rfl)) rfl ?_
    exact ⟨qR, qB⟩
   ·rw [if_neg c6] at H
    have c6b0 := decide_eq_false c6
    clear c6
    replace H := iD H
    rcases H with ⟨c11b0, H⟩ | ⟨c11b0, H⟩
    ·replace H := Option.bind_eq_some_iff.mp H
     obtain ⟨⟨t959, t960, t961, t962⟩, A120, H⟩ := H
     (try dsimp -simprocs only at H)
     have A12 := Aside0.mk A120
     clear A120
     simp only [Option.some.injEq, Prod.mk.injEq] at H
     obtain ⟨rfl, rfl, rfl, rfl⟩ := H
     go_enter Tryd.func150, Tryd.ntmps150
     go_wp2_with (first | ((with_reducible refine gd 6 rfl ?_); refine bx 6 #[.int .i64 0, .int .i64 0, .string (⟨#[]⟩ : ByteArray)] 103 ?_; intro gb954 hg w13 hbox hb; have BK954 := Aside0.mk (hbox); have GW954 := geS hg; have GE954 := geS hg; replace HB := bst hb; clear hb hbox hg) | ((with_reducible refine gc 146 rfl ?_); refine gl (some 34) #[.int .i64 (wrap64 (a1 + a2)), .bool (decide ((wrap64 (a1 + a2)) > a1))] Tryd.func146 ?_; (with_reducible refine (val_over.calls (wrap64 (a1 + a2)) (decide ((wrap64 (a1 + a2)) > a1)) t959 t960 t961 t962 _ A12.out).mono ?_); rintro e w14 ⟨rfl, hb⟩; refine ⟨_, rfl, ?_⟩; replace BK954 := kb gb954 hb; replace HB := bst hb; (try clear hb); obtain ⟨hcz15_0, hcz15_1, hcz15_2, hfz15_0, hfz15_1, hfz15_2⟩ := cells3 BK954.out))
     refine bodyPost_ret (results_ct rfl _ _ gb954 103 #[.int .i64 t959, .int .i64 t960, .string t961] (0, 0) _ rfl qP Tryd.underlying103 rfl (by kernel_rfl)) rfl ?_
     exact ⟨qR, qB⟩
    ·replace H := Option.bind_eq_some_iff.mp H
     obtain ⟨⟨t963, t964, t965, t966⟩, A160, H⟩ := H
     (try dsimp -simprocs only at H)
     have A16 := Aside0.mk A160
     clear A160
     simp only [Option.some.injEq, Prod.mk.injEq] at H
     obtain ⟨rfl, rfl, rfl, rfl⟩ := H
     go_enter Tryd.func150, Tryd.ntmps150
     go_wp2_with (first | ((with_reducible refine gd 6 rfl ?_); refine bx 6 #[.int .i64 0, .int .i64 0, .string (⟨#[]⟩ : ByteArray)] 103 ?_; intro gb954 hg w17 hbox hb; have BK954 := Aside0.mk (hbox); have GW954 := geS hg; have GE954 := geS hg; replace HB := bst hb; clear hb hbox hg) | ((with_reducible refine gc 146 rfl ?_); refine gl (some 34) #[.int .i64 (wrap64 (a1 + a2)), .bool false] Tryd.func146 ?_; (with_reducible refine (val_over.calls (wrap64 (a1 + a2)) false t963 t964 t965 t966 _ A16.out).mono ?_); rintro e w18 ⟨rfl, hb⟩; refine ⟨_, rfl, ?_⟩; replace BK954 := kb gb954 hb; replace HB := bst hb; (try clear hb); obtain ⟨hcz19_0, hcz19_1, hcz19_2, hfz19_0, hfz19_1, hfz19_2⟩ := cells3 BK954.out))
     refine bodyPost_ret (results_ct rfl _ _ gb954 103 #[.int .i64 t963, .int .i64 t964, .string t965] (0, 0) _ rfl qP Tryd.underlying103 rfl (by kernel_rfl)) rfl ?_
     exact ⟨qR, qB⟩
  ·by_cases c20 : a2 < 0
   ·rw [if_pos c20] at H
    have c20b0 := decide_eq_true c20
    clear c20
    replace H := Option.bind_eq_some_iff.mp H
    obtain ⟨⟨t967, t968, t969, t970⟩, A210, H⟩ := H
    (try dsimp -simprocs only at H)
    have A21 := Aside0.mk A210
    clear A210
    simp only [Option.some.injEq, Prod.mk.injEq] at H
    obtain ⟨rfl, rfl, rfl, rfl⟩ := H
    go_enter Tryd.func150, Tryd.ntmps150
    go_wp2_with (first | ((with_reducible refine gd 6 rfl ?_); refine bx 6 #[.int .i64 0, .int .i64 0, .string (⟨#[]⟩ : ByteArray)] 103 ?_; intro gb954 hg w22 hbox hb; have BK954 := Aside0.mk (hbox); have GW954 := geS hg; have GE954 := geS hg; replace HB := bst hb; clear hb hbox hg) | ((with_reducible refine gc 146 rfl ?_); refine gl (some 34) #[.int .i64 (wrap64 (a1 + a2)), .bool (decide ((wrap64 (a1 + a2)) > a1))] Tryd.func146 ?_; (with_reducible refine (val_over.calls (wrap64 (a1 + a2)) (decide ((wrap64 (a1 + a2)) > a1)) t967 t968 t969 t970 _ A21.out).mono ?_); rintro e w23 ⟨rfl, hb⟩; refine ⟨_, rfl, ?_⟩; replace BK954 := kb gb954 hb; replace HB := bst hb; (try clear hb); obtain ⟨hcz24_0, hcz24_1, hcz24_2, hfz24_0, hfz24_1, hfz24_2⟩ := cells3 BK954.out))
    refine bodyPost_ret (results_ct rfl _ _ gb954 103 #[.int .i64 t967, .int .i64 t968, .string t969] (0, 0) _ rfl qP Tryd.underlying103 rfl (by kernel_rfl)) rfl ?_
    exact ⟨qR, qB⟩
   ·rw [if_neg c20] at H
    have c20b0 := decide_eq_false c20
    clear c20
    replace H := Option.bind_eq_some_iff.mp H
    obtain ⟨⟨t971, t972, t973, t974⟩, A250, H⟩ := H
    (try dsimp -simprocs only at H)
    have A25 := Aside0.mk A250
    clear A250
    simp only [Option.some.injEq, Prod.mk.injEq] at H
    obtain ⟨rfl, rfl, rfl, rfl⟩ := H
    go_enter Tryd.func150, Tryd.ntmps150
    go_wp2_with (first | ((with_reducible refine gd 6 rfl ?_); refine bx 6 #[.int .i64 0, .int .i64 0, .string (⟨#[]⟩ : ByteArray)] 103 ?_; intro gb954 hg w26 hbox hb; have BK954 := Aside0.mk (hbox); have GW954 := geS hg; have GE954 := geS hg; replace HB := bst hb; clear hb hbox hg) | ((with_reducible refine gc 146 rfl ?_); refine gl (some 34) #[.int .i64 (wrap64 (a1 + a2)), .bool false] Tryd.func146 ?_; (with_reducible refine (val_over.calls (wrap64 (a1 + a2)) false t971 t972 t973 t974 _ A25.out).mono ?_); rintro e w27 ⟨rfl, hb⟩; refine ⟨_, rfl, ?_⟩; replace BK954 := kb gb954 hb; replace HB := bst hb; (try clear hb); obtain ⟨hcz28_0, hcz28_1, hcz28_2, hfz28_0, hfz28_1, hfz28_2⟩ := cells3 BK954.out))
    refine bodyPost_ret (results_ct rfl _ _ gb954 103 #[.int .i64 t971, .int .i64 t972, .string t973] (0, 0) _ rfl qP Tryd.underlying103 rfl (by kernel_rfl)) rfl ?_
    exact ⟨qR, qB⟩
 ·rw [if_neg c4] at H
  have c4b0 := beq_eq_false_iff_ne.mpr c4
  have c4b1 := bne_iff_ne.mpr c4
  by_cases c29 : a0 = 7
  ·rw [if_pos c29] at H
   have c29b0 := beq_iff_eq.mpr c29
   have c29b1 := bne_eq_false_iff_eq.mpr c29
   clear c29
   replace H := iD H
   rcases H with ⟨c30b0, H⟩ | ⟨c30b0, H⟩
   ·by_cases c31 : (wrap64 (a1 - a2)) < a1
    ·rw [if_pos c31] at H
     have c31b0 := decide_eq_true c31
     clear c31
     replace H := Option.bind_eq_some_iff.mp H
     obtain ⟨⟨t975, t976, t977, t978⟩, A320, H⟩ := H
     (try dsimp -simprocs only at H)
     have A32 := Aside0.mk A320
     clear A320
     simp only [Option.some.injEq, Prod.mk.injEq] at H
     obtain ⟨rfl, rfl, rfl, rfl⟩ := H
     go_enter Tryd.func150, Tryd.ntmps150
     go_wp2_with (first | ((with_reducible refine gd 6 rfl ?_); refine bx 6 #[.int .i64 0, .int .i64 0, .string (⟨#[]⟩ : ByteArray)] 103 ?_; intro gb954 hg w33 hbox hb; have BK954 := Aside0.mk (hbox); have GW954 := geS hg; have GE954 := geS hg; replace HB := bst hb; clear hb hbox hg) | ((with_reducible refine gc 146 rfl ?_); refine gl (some 59) #[.int .i64 (wrap64 (a1 - a2)), .bool true] Tryd.func146 ?_; (with_reducible refine (val_over.calls (wrap64 (a1 - a2)) true t975 t976 t977 t978 _ A32.out).mono ?_); rintro e w34 ⟨rfl, hb⟩; refine ⟨_, rfl, ?_⟩; replace BK954 := kb gb954 hb; replace HB := bst hb; (try clear hb); obtain ⟨hcz35_0, hcz35_1, hcz35_2, hfz35_0, hfz35_1, hfz35_2⟩ := cells3 BK954.out))
     refine bodyPost_ret (results_ct rfl _ _ gb954 103 #[.int .i64 t975, .int .i64 t976, .string t977] (0, 0) _ rfl qP Tryd.underlying103 rfl (by kernel_rfl)) rfl ?_
     exact ⟨qR, qB⟩
    ·rw [if_neg c31] at H
     have c31b0 := decide_eq_false c31
     clear c31
     replace H := iD H
     rcases H with ⟨c36b0, H⟩ | ⟨c36b0, H⟩
     ·replace H := Option.bind_eq_some_iff.mp H
      obtain ⟨⟨t979, t980, t981, t982⟩, A370, H⟩ := H
      (try dsimp -simprocs only at H)
      have A37 := Aside0.mk A370
      clear A370
      simp only [Option.some.injEq, Prod.mk.injEq] at H
      obtain ⟨rfl, rfl, rfl, rfl⟩ := H
      go_enter Tryd.func150, Tryd.ntmps150
      go_wp2_with (first | ((with_reducible refine gd 6 rfl ?_); refine bx 6 #[.int .i64 0, .int .i64 0, .string (⟨#[]⟩ : ByteArray)] 103 ?_; intro gb954 hg w38 hbox hb; have BK954 := Aside0.mk (hbox); have GW954 := geS hg; have GE954 := geS hg; replace HB := bst hb; clear hb hbox hg) | ((with_reducible refine gc 146 rfl ?_); refine gl (some 59) #[.int .i64 (wrap64 (a1 - a2)), .bool (decide ((wrap64 (a1 - a2)) > a1))] Tryd.func146 ?_; (with_reducible refine (val_over.calls (wrap64 (a1 - a2)) (decide ((wrap64 (a1 - a2)) > a1)) t979 t980 t981 t982 _ A37.out).mono ?_); rintro e w39 ⟨rfl, hb⟩; refine ⟨_, rfl, ?_⟩; replace BK954 := kb gb954 hb; replace HB := bst hb; (try clear hb); obtain ⟨hcz40_0, hcz40_1, hcz40_2, hfz40_0, hfz40_1, hfz40_2⟩ := cells3 BK954.out))
      refine bodyPost_ret (results_ct rfl _ _ gb954 103 #[.int .i64 t979, .int .i64 t980, .string t981] (0, 0) _ rfl qP Tryd.underlying103 rfl (by kernel_rfl)) rfl ?_
      exact ⟨qR, qB⟩
     ·replace H := Option.bind_eq_some_iff.mp H
      obtain ⟨⟨t983, t984, t985, t986⟩, A410, H⟩ := H
      (try dsimp -simprocs only at H)
      have A41 := Aside0.mk A410
      clear A410
      simp only [Option.some.injEq, Prod.mk.injEq] at H
      obtain ⟨rfl, rfl, rfl, rfl⟩ := H
      go_enter Tryd.func150, Tryd.ntmps150
      go_wp2_with (first | ((with_reducible refine gd 6 rfl ?_); refine bx 6 #[.int .i64 0, .int .i64 0, .string (⟨#[]⟩ : ByteArray)] 103 ?_; intro gb954 hg w42 hbox hb; have BK954 := Aside0.mk (hbox); have GW954 := geS hg; have GE954 := geS hg; replace HB := bst hb; clear hb hbox hg) | ((with_reducible refine gc 146 rfl ?_); refine gl (some 59) #[.int .i64 (wrap64 (a1 - a2)), .bool false] Tryd.func146 ?_; (with_reducible refine (val_over.calls (wrap64 (a1 - a2)) false t983 t984 t985 t986 _ A41.out).mono ?_); rintro e w43 ⟨rfl, hb⟩; refine ⟨_, rfl, ?_⟩; replace BK954 := kb gb954 hb; replace HB := bst hb; (try clear hb); obtain ⟨hcz44_0, hcz44_1, hcz44_2, hfz44_0, hfz44_1, hfz44_2⟩ := cells3 BK954.out))
      refine bodyPost_ret (results_ct rfl _ _ gb954 103 #[.int .i64 t983, .int .i64 t984, .string t985] (0, 0) _ rfl qP Tryd.underlying103 rfl (by kernel_rfl)) rfl ?_
      exact ⟨qR, qB⟩
   ·by_cases c45 : a2 > 0
    ·rw [if_pos c45] at H
     have c45b0 := decide_eq_true c45
     clear c45
     replace H := Option.bind_eq_some_iff.mp H
     obtain ⟨⟨t987, t988, t989, t990⟩, A460, H⟩ := H
     (try dsimp -simprocs only at H)
     have A46 := Aside0.mk A460
     clear A460
     simp only [Option.some.injEq, Prod.mk.injEq] at H
     obtain ⟨rfl, rfl, rfl, rfl⟩ := H
     go_enter Tryd.func150, Tryd.ntmps150
     go_wp2_with (first | ((with_reducible refine gd 6 rfl ?_); refine bx 6 #[.int .i64 0, .int .i64 0, .string (⟨#[]⟩ : ByteArray)] 103 ?_; intro gb954 hg w47 hbox hb; have BK954 := Aside0.mk (hbox); have GW954 := geS hg; have GE954 := geS hg; replace HB := bst hb; clear hb hbox hg) | ((with_reducible refine gc 146 rfl ?_); refine gl (some 59) #[.int .i64 (wrap64 (a1 - a2)), .bool (decide ((wrap64 (a1 - a2)) > a1))] Tryd.func146 ?_; (with_reducible refine (val_over.calls (wrap64 (a1 - a2)) (decide ((wrap64 (a1 - a2)) > a1)) t987 t988 t989 t990 _ A46.out).mono ?_); rintro e w48 ⟨rfl, hb⟩; refine ⟨_, rfl, ?_⟩; replace BK954 := kb gb954 hb; replace HB := bst hb; (try clear hb); obtain ⟨hcz49_0, hcz49_1, hcz49_2, hfz49_0, hfz49_1, hfz49_2⟩ := cells3 BK954.out))
     refine bodyPost_ret (results_ct rfl _ _ gb954 103 #[.int .i64 t987, .int .i64 t988, .string t989] (0, 0) _ rfl qP Tryd.underlying103 rfl (by kernel_rfl)) rfl ?_
     exact ⟨qR, qB⟩
    ·rw [if_neg c45] at H
     have c45b0 := decide_eq_false c45
     clear c45
     replace H := Option.bind_eq_some_iff.mp H
     obtain ⟨⟨t991, t992, t993, t994⟩, A500, H⟩ := H
     (try dsimp -simprocs only at H)
     have A50 := Aside0.mk A500
     clear A500
     simp only [Option.some.injEq, Prod.mk.injEq] at H
     obtain ⟨rfl, rfl, rfl, rfl⟩ := H
     go_enter Tryd.func150, Tryd.ntmps150
     go_wp2_with (first | ((with_reducible refine gd 6 rfl ?_); refine bx 6 #[.int .i64 0, .int .i64 0, .string (⟨#[]⟩ : ByteArray)] 103 ?_; intro gb954 hg w51 hbox hb; have BK954 := Aside0.mk (hbox); have GW954 := geS hg; have GE954 := geS hg; replace HB := bst hb; clear hb hbox hg) | ((with_reducible refine gc 146 rfl ?_); refine gl (some 59) #[.int .i64 (wrap64 (a1 - a2)), .bool false] Tryd.func146 ?_; (with_reducible refine (val_over.calls (wrap64 (a1 - a2)) false t991 t992 t993 t994 _ A50.out).mono ?_); rintro e w52 ⟨rfl, hb⟩; refine ⟨_, rfl, ?_⟩; replace BK954 := kb gb954 hb; replace HB := bst hb; (try clear hb); obtain ⟨hcz53_0, hcz53_1, hcz53_2, hfz53_0, hfz53_1, hfz53_2⟩ := cells3 BK954.out))
     refine bodyPost_ret (results_ct rfl _ _ gb954 103 #[.int .i64 t991, .int .i64 t992, .string t993] (0, 0) _ rfl qP Tryd.underlying103 rfl (by kernel_rfl)) rfl ?_
     exact ⟨qR, qB⟩
  ·rw [if_neg c29] at H
   have c29b0 := beq_eq_false_iff_ne.mpr c29
   have c29b1 := bne_iff_ne.mpr c29
   by_cases c54 : a0 = 3
   ·rw [if_pos c54] at H
    have c54b0 := beq_iff_eq.mpr c54
    have c54b1 := bne_eq_false_iff_eq.mpr c54
    clear c54
    by_cases c55 : a1 = (-1)
    ·rw [if_pos c55] at H
     have c55b0 := beq_iff_eq.mpr c55
     have c55b1 := bne_eq_false_iff_eq.mpr c55
     clear c55
     by_cases c56 : a2 = (-9223372036854775808)
     ·rw [if_pos c56] at H
      have c56b0 := beq_iff_eq.mpr c56
      have c56b1 := bne_eq_false_iff_eq.mpr c56
      clear c56
      replace H := Option.bind_eq_some_iff.mp H
      obtain ⟨⟨t995, t996, t997, t998⟩, A570, H⟩ := H
      (try dsimp -simprocs only at H)
      have A57 := Aside0.mk A570
      clear A570
      simp only [Option.some.injEq, Prod.mk.injEq] at H
      obtain ⟨rfl, rfl, rfl, rfl⟩ := H
      go_enter Tryd.func150, Tryd.ntmps150
      go_wp2_with (first | ((with_reducible refine gd 6 rfl ?_); refine bx 6 #[.int .i64 0, .int .i64 0, .string (⟨#[]⟩ : ByteArray)] 103 ?_; intro gb954 hg w58 hbox hb; have BK954 := Aside0.mk (hbox); have GW954 := geS hg; have GE954 := geS hg; replace HB := bst hb; clear hb hbox hg) | ((with_reducible refine gc 146 rfl ?_); refine gl (some 97) #[.int .i64 (wrap64 (a1 * a2)), .bool true] Tryd.func146 ?_; (with_reducible refine (val_over.calls (wrap64 (a1 * a2)) true t995 t996 t997 t998 _ A57.out).mono ?_); rintro e w59 ⟨rfl, hb⟩; refine ⟨_, rfl, ?_⟩; replace BK954 := kb gb954 hb; replace HB := bst hb; (try clear hb); obtain ⟨hcz60_0, hcz60_1, hcz60_2, hfz60_0, hfz60_1, hfz60_2⟩ := cells3 BK954.out))
      refine bodyPost_ret (results_ct rfl _ _ gb954 103 #[.int .i64 t995, .int .i64 t996, .string t997] (0, 0) _ rfl qP Tryd.underlying103 rfl (by kernel_rfl)) rfl ?_
      exact ⟨qR, qB⟩
     ·rw [if_neg c56] at H
      have c56b0 := beq_eq_false_iff_ne.mpr c56
      have c56b1 := bne_iff_ne.mpr c56
      by_cases c61 : a2 = (-1)
      ·rw [if_pos c61] at H
       have c61b0 := beq_iff_eq.mpr c61
       have c61b1 := bne_eq_false_iff_eq.mpr c61
       clear c61
       by_cases c62 : a1 = (-9223372036854775808)
       ·rw [if_pos c62] at H
        have c62b0 := beq_iff_eq.mpr c62
        have c62b1 := bne_eq_false_iff_eq.mpr c62
        clear c62
        replace H := Option.bind_eq_some_iff.mp H
        obtain ⟨⟨t999, t1000, t1001, t1002⟩, A630, H⟩ := H
        (try dsimp -simprocs only at H)
        have A63 := Aside0.mk A630
        clear A630
        simp only [Option.some.injEq, Prod.mk.injEq] at H
        obtain ⟨rfl, rfl, rfl, rfl⟩ := H
        go_enter Tryd.func150, Tryd.ntmps150
        go_wp2_with (first | ((with_reducible refine gd 6 rfl ?_); refine bx 6 #[.int .i64 0, .int .i64 0, .string (⟨#[]⟩ : ByteArray)] 103 ?_; intro gb954 hg w64 hbox hb; have BK954 := Aside0.mk (hbox); have GW954 := geS hg; have GE954 := geS hg; replace HB := bst hb; clear hb hbox hg) | ((with_reducible refine gc 146 rfl ?_); refine gl (some 97) #[.int .i64 (wrap64 (a1 * a2)), .bool true] Tryd.func146 ?_; (with_reducible refine (val_over.calls (wrap64 (a1 * a2)) true t999 t1000 t1001 t1002 _ A63.out).mono ?_); rintro e w65 ⟨rfl, hb⟩; refine ⟨_, rfl, ?_⟩; replace BK954 := kb gb954 hb; replace HB := bst hb; (try clear hb); obtain ⟨hcz66_0, hcz66_1, hcz66_2, hfz66_0, hfz66_1, hfz66_2⟩ := cells3 BK954.out))
        refine bodyPost_ret (results_ct rfl _ _ gb954 103 #[.int .i64 t999, .int .i64 t1000, .string t1001] (0, 0) _ rfl qP Tryd.underlying103 rfl (by kernel_rfl)) rfl ?_
        exact ⟨qR, qB⟩
       ·rw [if_neg c62] at H
        have c62b0 := beq_eq_false_iff_ne.mpr c62
        have c62b1 := bne_iff_ne.mpr c62
        by_cases c67 : a1 = 0
        ·rw [if_pos c67] at H
         have c67b0 := beq_iff_eq.mpr c67
         have c67b1 := bne_eq_false_iff_eq.mpr c67
         clear c67
         replace H := Option.bind_eq_some_iff.mp H
         obtain ⟨⟨t1003, t1004, t1005, t1006⟩, A680, H⟩ := H
         (try dsimp -simprocs only at H)
         have A68 := Aside0.mk A680
         clear A680
         simp only [Option.some.injEq, Prod.mk.injEq] at H
         obtain ⟨rfl, rfl, rfl, rfl⟩ := H
         go_enter Tryd.func150, Tryd.ntmps150
         go_wp2_with (first | ((with_reducible refine gd 6 rfl ?_); refine bx 6 #[.int .i64 0, .int .i64 0, .string (⟨#[]⟩ : ByteArray)] 103 ?_; intro gb954 hg w69 hbox hb; have BK954 := Aside0.mk (hbox); have GW954 := geS hg; have GE954 := geS hg; replace HB := bst hb; clear hb hbox hg) | ((with_reducible refine gc 146 rfl ?_); refine gl (some 97) #[.int .i64 (wrap64 (a1 * a2)), .bool false] Tryd.func146 ?_; (with_reducible refine (val_over.calls (wrap64 (a1 * a2)) false t1003 t1004 t1005 t1006 _ A68.out).mono ?_); rintro e w70 ⟨rfl, hb⟩; refine ⟨_, rfl, ?_⟩; replace BK954 := kb gb954 hb; replace HB := bst hb; (try clear hb); obtain ⟨hcz71_0, hcz71_1, hcz71_2, hfz71_0, hfz71_1, hfz71_2⟩ := cells3 BK954.out))
         refine bodyPost_ret (results_ct rfl _ _ gb954 103 #[.int .i64 t1003, .int .i64 t1004, .string t1005] (0, 0) _ rfl qP Tryd.underlying103 rfl (by kernel_rfl)) rfl ?_
         exact ⟨qR, qB⟩
        ·rw [if_neg c67] at H
         have c67b0 := beq_eq_false_iff_ne.mpr c67
         have c67b1 := bne_iff_ne.mpr c67
         replace H := Option.bind_eq_some_iff.mp H
         obtain ⟨⟨t1007, t1008, t1009, t1010⟩, A720, H⟩ := H
         (try dsimp -simprocs only at H)
         have A72 := Aside0.mk A720
         clear A720
         simp only [Option.some.injEq, Prod.mk.injEq] at H
         obtain ⟨rfl, rfl, rfl, rfl⟩ := H
         go_enter Tryd.func150, Tryd.ntmps150
         go_wp2_with (first | ((with_reducible refine gd 6 rfl ?_); refine bx 6 #[.int .i64 0, .int .i64 0, .string (⟨#[]⟩ : ByteArray)] 103 ?_; intro gb954 hg w73 hbox hb; have BK954 := Aside0.mk (hbox); have GW954 := geS hg; have GE954 := geS hg; replace HB := bst hb; clear hb hbox hg) | ((with_reducible refine gc 146 rfl ?_); refine gl (some 97) #[.int .i64 (wrap64 (a1 * a2)), .bool false] Tryd.func146 ?_; (with_reducible refine (val_over.calls (wrap64 (a1 * a2)) false t1007 t1008 t1009 t1010 _ A72.out).mono ?_); rintro e w74 ⟨rfl, hb⟩; refine ⟨_, rfl, ?_⟩; replace BK954 := kb gb954 hb; replace HB := bst hb; (try clear hb); obtain ⟨hcz75_0, hcz75_1, hcz75_2, hfz75_0, hfz75_1, hfz75_2⟩ := cells3 BK954.out))
         refine bodyPost_ret (results_ct rfl _ _ gb954 103 #[.int .i64 t1007, .int .i64 t1008, .string t1009] (0, 0) _ rfl qP Tryd.underlying103 rfl (by kernel_rfl)) rfl ?_
         exact ⟨qR, qB⟩
      ·rw [if_neg c61] at H
       have c61b0 := beq_eq_false_iff_ne.mpr c61
       have c61b1 := bne_iff_ne.mpr c61
       by_cases c76 : a1 = 0
       ·rw [if_pos c76] at H
        have c76b0 := beq_iff_eq.mpr c76
        have c76b1 := bne_eq_false_iff_eq.mpr c76
        clear c76
        replace H := Option.bind_eq_some_iff.mp H
        obtain ⟨⟨t1011, t1012, t1013, t1014⟩, A770, H⟩ := H
        (try dsimp -simprocs only at H)
        have A77 := Aside0.mk A770
        clear A770
        simp only [Option.some.injEq, Prod.mk.injEq] at H
        obtain ⟨rfl, rfl, rfl, rfl⟩ := H
        go_enter Tryd.func150, Tryd.ntmps150
        go_wp2_with (first | ((with_reducible refine gd 6 rfl ?_); refine bx 6 #[.int .i64 0, .int .i64 0, .string (⟨#[]⟩ : ByteArray)] 103 ?_; intro gb954 hg w78 hbox hb; have BK954 := Aside0.mk (hbox); have GW954 := geS hg; have GE954 := geS hg; replace HB := bst hb; clear hb hbox hg) | ((with_reducible refine gc 146 rfl ?_); refine gl (some 97) #[.int .i64 (wrap64 (a1 * a2)), .bool false] Tryd.func146 ?_; (with_reducible refine (val_over.calls (wrap64 (a1 * a2)) false t1011 t1012 t1013 t1014 _ A77.out).mono ?_); rintro e w79 ⟨rfl, hb⟩; refine ⟨_, rfl, ?_⟩; replace BK954 := kb gb954 hb; replace HB := bst hb; (try clear hb); obtain ⟨hcz80_0, hcz80_1, hcz80_2, hfz80_0, hfz80_1, hfz80_2⟩ := cells3 BK954.out))
        refine bodyPost_ret (results_ct rfl _ _ gb954 103 #[.int .i64 t1011, .int .i64 t1012, .string t1013] (0, 0) _ rfl qP Tryd.underlying103 rfl (by kernel_rfl)) rfl ?_
        exact ⟨qR, qB⟩
       ·rw [if_neg c76] at H
        have c76b0 := beq_eq_false_iff_ne.mpr c76
        have c76b1 := bne_iff_ne.mpr c76
        replace H := Option.bind_eq_some_iff.mp H
        obtain ⟨⟨t1015, t1016, t1017, t1018⟩, A810, H⟩ := H
        (try dsimp -simprocs only at H)
        have A81 := Aside0.mk A810
        clear A810
        simp only [Option.some.injEq, Prod.mk.injEq] at H
        obtain ⟨rfl, rfl, rfl, rfl⟩ := H
        go_enter Tryd.func150, Tryd.ntmps150
        go_wp2_with (first | ((with_reducible refine gd 6 rfl ?_); refine bx 6 #[.int .i64 0, .int .i64 0, .string (⟨#[]⟩ : ByteArray)] 103 ?_; intro gb954 hg w82 hbox hb; have BK954 := Aside0.mk (hbox); have GW954 := geS hg; have GE954 := geS hg; replace HB := bst hb; clear hb hbox hg) | ((with_reducible refine gc 146 rfl ?_); refine gl (some 97) #[.int .i64 (wrap64 (a1 * a2)), .bool false] Tryd.func146 ?_; (with_reducible refine (val_over.calls (wrap64 (a1 * a2)) false t1015 t1016 t1017 t1018 _ A81.out).mono ?_); rintro e w83 ⟨rfl, hb⟩; refine ⟨_, rfl, ?_⟩; replace BK954 := kb gb954 hb; replace HB := bst hb; (try clear hb); obtain ⟨hcz84_0, hcz84_1, hcz84_2, hfz84_0, hfz84_1, hfz84_2⟩ := cells3 BK954.out))
        refine bodyPost_ret (results_ct rfl _ _ gb954 103 #[.int .i64 t1015, .int .i64 t1016, .string t1017] (0, 0) _ rfl qP Tryd.underlying103 rfl (by kernel_rfl)) rfl ?_
        exact ⟨qR, qB⟩
    ·rw [if_neg c55] at H
     have c55b0 := beq_eq_false_iff_ne.mpr c55
     have c55b1 := bne_iff_ne.mpr c55
     by_cases c85 : a2 = (-1)
     ·rw [if_pos c85] at H
      have c85b0 := beq_iff_eq.mpr c85
      have c85b1 := bne_eq_false_iff_eq.mpr c85
      clear c85
      by_cases c86 : a1 = (-9223372036854775808)
      ·rw [if_pos c86] at H
       have c86b0 := beq_iff_eq.mpr c86
       have c86b1 := bne_eq_false_iff_eq.mpr c86
       clear c86
       replace H := Option.bind_eq_some_iff.mp H
       obtain ⟨⟨t1019, t1020, t1021, t1022⟩, A870, H⟩ := H
       (try dsimp -simprocs only at H)
       have A87 := Aside0.mk A870
       clear A870
       simp only [Option.some.injEq, Prod.mk.injEq] at H
       obtain ⟨rfl, rfl, rfl, rfl⟩ := H
       go_enter Tryd.func150, Tryd.ntmps150
       go_wp2_with (first | ((with_reducible refine gd 6 rfl ?_); refine bx 6 #[.int .i64 0, .int .i64 0, .string (⟨#[]⟩ : ByteArray)] 103 ?_; intro gb954 hg w88 hbox hb; have BK954 := Aside0.mk (hbox); have GW954 := geS hg; have GE954 := geS hg; replace HB := bst hb; clear hb hbox hg) | ((with_reducible refine gc 146 rfl ?_); refine gl (some 97) #[.int .i64 (wrap64 (a1 * a2)), .bool true] Tryd.func146 ?_; (with_reducible refine (val_over.calls (wrap64 (a1 * a2)) true t1019 t1020 t1021 t1022 _ A87.out).mono ?_); rintro e w89 ⟨rfl, hb⟩; refine ⟨_, rfl, ?_⟩; replace BK954 := kb gb954 hb; replace HB := bst hb; (try clear hb); obtain ⟨hcz90_0, hcz90_1, hcz90_2, hfz90_0, hfz90_1, hfz90_2⟩ := cells3 BK954.out))
       refine bodyPost_ret (results_ct rfl _ _ gb954 103 #[.int .i64 t1019, .int .i64 t1020, .string t1021] (0, 0) _ rfl qP Tryd.underlying103 rfl (by kernel_rfl)) rfl ?_
       exact ⟨qR, qB⟩
      ·rw [if_neg c86] at H
       have c86b0 := beq_eq_false_iff_ne.mpr c86
       have c86b1 := bne_iff_ne.mpr c86
       by_cases c91 : a1 = 0
       ·rw [if_pos c91] at H
        have c91b0 := beq_iff_eq.mpr c91
        have c91b1 := bne_eq_false_iff_eq.mpr c91
        clear c91
        replace H := Option.bind_eq_some_iff.mp H
        obtain ⟨⟨t1023, t1024, t1025, t1026⟩, A920, H⟩ := H
        (try dsimp -simprocs only at H)
        have A92 := Aside0.mk A920
        clear A920
        simp only [Option.some.injEq, Prod.mk.injEq] at H
        obtain ⟨rfl, rfl, rfl, rfl⟩ := H
        go_enter Tryd.func150, Tryd.ntmps150
        go_wp2_with (first | ((with_reducible refine gd 6 rfl ?_); refine bx 6 #[.int .i64 0, .int .i64 0, .string (⟨#[]⟩ : ByteArray)] 103 ?_; intro gb954 hg w93 hbox hb; have BK954 := Aside0.mk (hbox); have GW954 := geS hg; have GE954 := geS hg; replace HB := bst hb; clear hb hbox hg) | ((with_reducible refine gc 146 rfl ?_); refine gl (some 97) #[.int .i64 (wrap64 (a1 * a2)), .bool false] Tryd.func146 ?_; (with_reducible refine (val_over.calls (wrap64 (a1 * a2)) false t1023 t1024 t1025 t1026 _ A92.out).mono ?_); rintro e w94 ⟨rfl, hb⟩; refine ⟨_, rfl, ?_⟩; replace BK954 := kb gb954 hb; replace HB := bst hb; (try clear hb); obtain ⟨hcz95_0, hcz95_1, hcz95_2, hfz95_0, hfz95_1, hfz95_2⟩ := cells3 BK954.out))
        refine bodyPost_ret (results_ct rfl _ _ gb954 103 #[.int .i64 t1023, .int .i64 t1024, .string t1025] (0, 0) _ rfl qP Tryd.underlying103 rfl (by kernel_rfl)) rfl ?_
        exact ⟨qR, qB⟩
       ·rw [if_neg c91] at H
        have c91b0 := beq_eq_false_iff_ne.mpr c91
        have c91b1 := bne_iff_ne.mpr c91
        replace H := Option.bind_eq_some_iff.mp H
        obtain ⟨⟨t1027, t1028, t1029, t1030⟩, A960, H⟩ := H
        (try dsimp -simprocs only at H)
        have A96 := Aside0.mk A960
        clear A960
        simp only [Option.some.injEq, Prod.mk.injEq] at H
        obtain ⟨rfl, rfl, rfl, rfl⟩ := H
        go_enter Tryd.func150, Tryd.ntmps150
        go_wp2_with (first | ((with_reducible refine gd 6 rfl ?_); refine bx 6 #[.int .i64 0, .int .i64 0, .string (⟨#[]⟩ : ByteArray)] 103 ?_; intro gb954 hg w97 hbox hb; have BK954 := Aside0.mk (hbox); have GW954 := geS hg; have GE954 := geS hg; replace HB := bst hb; clear hb hbox hg) | ((with_reducible refine gc 146 rfl ?_); refine gl (some 97) #[.int .i64 (wrap64 (a1 * a2)), .bool ((wrap64 (Int.tdiv (wrap64 (a1 * a2)) a1)) != a2)] Tryd.func146 ?_; (with_reducible refine (val_over.calls (wrap64 (a1 * a2)) ((wrap64 (Int.tdiv (wrap64 (a1 * a2)) a1)) != a2) t1027 t1028 t1029 t1030 _ A96.out).mono ?_); rintro e w98 ⟨rfl, hb⟩; refine ⟨_, rfl, ?_⟩; replace BK954 := kb gb954 hb; replace HB := bst hb; (try clear hb); obtain ⟨hcz99_0, hcz99_1, hcz99_2, hfz99_0, hfz99_1, hfz99_2⟩ := cells3 BK954.out))
        refine bodyPost_ret (results_ct rfl _ _ gb954 103 #[.int .i64 t1027, .int .i64 t1028, .string t1029] (0, 0) _ rfl qP Tryd.underlying103 rfl (by kernel_rfl)) rfl ?_
        exact ⟨qR, qB⟩
     ·rw [if_neg c85] at H
      have c85b0 := beq_eq_false_iff_ne.mpr c85
      have c85b1 := bne_iff_ne.mpr c85
      by_cases c100 : a1 = 0
      ·rw [if_pos c100] at H
       have c100b0 := beq_iff_eq.mpr c100
       have c100b1 := bne_eq_false_iff_eq.mpr c100
       clear c100
       replace H := Option.bind_eq_some_iff.mp H
       obtain ⟨⟨t1031, t1032, t1033, t1034⟩, A1010, H⟩ := H
       (try dsimp -simprocs only at H)
       have A101 := Aside0.mk A1010
       clear A1010
       simp only [Option.some.injEq, Prod.mk.injEq] at H
       obtain ⟨rfl, rfl, rfl, rfl⟩ := H
       go_enter Tryd.func150, Tryd.ntmps150
       go_wp2_with (first | ((with_reducible refine gd 6 rfl ?_); refine bx 6 #[.int .i64 0, .int .i64 0, .string (⟨#[]⟩ : ByteArray)] 103 ?_; intro gb954 hg w102 hbox hb; have BK954 := Aside0.mk (hbox); have GW954 := geS hg; have GE954 := geS hg; replace HB := bst hb; clear hb hbox hg) | ((with_reducible refine gc 146 rfl ?_); refine gl (some 97) #[.int .i64 (wrap64 (a1 * a2)), .bool false] Tryd.func146 ?_; (with_reducible refine (val_over.calls (wrap64 (a1 * a2)) false t1031 t1032 t1033 t1034 _ A101.out).mono ?_); rintro e w103 ⟨rfl, hb⟩; refine ⟨_, rfl, ?_⟩; replace BK954 := kb gb954 hb; replace HB := bst hb; (try clear hb); obtain ⟨hcz104_0, hcz104_1, hcz104_2, hfz104_0, hfz104_1, hfz104_2⟩ := cells3 BK954.out))
       refine bodyPost_ret (results_ct rfl _ _ gb954 103 #[.int .i64 t1031, .int .i64 t1032, .string t1033] (0, 0) _ rfl qP Tryd.underlying103 rfl (by kernel_rfl)) rfl ?_
       exact ⟨qR, qB⟩
      ·rw [if_neg c100] at H
       have c100b0 := beq_eq_false_iff_ne.mpr c100
       have c100b1 := bne_iff_ne.mpr c100
       replace H := Option.bind_eq_some_iff.mp H
       obtain ⟨⟨t1035, t1036, t1037, t1038⟩, A1050, H⟩ := H
       (try dsimp -simprocs only at H)
       have A105 := Aside0.mk A1050
       clear A1050
       simp only [Option.some.injEq, Prod.mk.injEq] at H
       obtain ⟨rfl, rfl, rfl, rfl⟩ := H
       go_enter Tryd.func150, Tryd.ntmps150
       go_wp2_with (first | ((with_reducible refine gd 6 rfl ?_); refine bx 6 #[.int .i64 0, .int .i64 0, .string (⟨#[]⟩ : ByteArray)] 103 ?_; intro gb954 hg w106 hbox hb; have BK954 := Aside0.mk (hbox); have GW954 := geS hg; have GE954 := geS hg; replace HB := bst hb; clear hb hbox hg) | ((with_reducible refine gc 146 rfl ?_); refine gl (some 97) #[.int .i64 (wrap64 (a1 * a2)), .bool ((wrap64 (Int.tdiv (wrap64 (a1 * a2)) a1)) != a2)] Tryd.func146 ?_; (with_reducible refine (val_over.calls (wrap64 (a1 * a2)) ((wrap64 (Int.tdiv (wrap64 (a1 * a2)) a1)) != a2) t1035 t1036 t1037 t1038 _ A105.out).mono ?_); rintro e w107 ⟨rfl, hb⟩; refine ⟨_, rfl, ?_⟩; replace BK954 := kb gb954 hb; replace HB := bst hb; (try clear hb); obtain ⟨hcz108_0, hcz108_1, hcz108_2, hfz108_0, hfz108_1, hfz108_2⟩ := cells3 BK954.out))
       refine bodyPost_ret (results_ct rfl _ _ gb954 103 #[.int .i64 t1035, .int .i64 t1036, .string t1037] (0, 0) _ rfl qP Tryd.underlying103 rfl (by kernel_rfl)) rfl ?_
       exact ⟨qR, qB⟩
   ·rw [if_neg c54] at H
    have c54b0 := beq_eq_false_iff_ne.mpr c54
    have c54b1 := bne_iff_ne.mpr c54
    by_cases c109 : a2 = 0
    ·rw [if_pos c109] at H
     have c109b0 := beq_iff_eq.mpr c109
     have c109b1 := bne_eq_false_iff_eq.mpr c109
     clear c109
     simp only [Option.some.injEq, Prod.mk.injEq] at H
     obtain ⟨rfl, rfl, rfl, rfl⟩ := H
     go_enter Tryd.func150, Tryd.ntmps150
     go_wp2_with (first | ((with_reducible refine gd 6 rfl ?_); refine bx 6 #[.int .i64 0, .int .i64 0, .string (⟨#[]⟩ : ByteArray)] 103 ?_; intro gb954 hg w110 hbox hb; have BK954 := Aside0.mk (hbox); have GW954 := geS hg; have GE954 := geS hg; replace HB := bst hb; clear hb hbox hg; obtain ⟨hcz111_0, hcz111_1, hcz111_2, hfz111_0, hfz111_1, hfz111_2⟩ := cells3 BK954.out))
     refine bodyPost_ret (results_ct rfl _ _ gb954 103 #[.int .i64 0, .int .i64 0, .string (⟨#[]⟩ : ByteArray)] (0, 0) _ rfl qP Tryd.underlying103 rfl (by kernel_rfl)) rfl ?_
     exact ⟨qR, qB⟩
    ·rw [if_neg c109] at H
     have c109b0 := beq_eq_false_iff_ne.mpr c109
     have c109b1 := bne_iff_ne.mpr c109
     have HC112 := Aside0.mk H
     clear H
     go_enter Tryd.func150, Tryd.ntmps150
     go_upto_region 13 with (first | ((with_reducible refine gd 6 rfl ?_); refine bx 6 #[.int .i64 0, .int .i64 0, .string (⟨#[]⟩ : ByteArray)] 103 ?_; intro gb954 hg w113 hbox hb; have BK954 := Aside0.mk (hbox); have GW954 := geS hg; have GE954 := geS hg; replace HB := bst hb; clear hb hbox hg))
     (try simp only [Act.put, List.setIfInBounds_toArray, List.set_cons_zero, List.set_cons_succ])
     go_cut [104] (fun v104 wc => ∃ (kq : Nat) (x104_111 : Bool), v104 = .bool x104_111 ∧ Aside0 (val_number.j0 kq a0 a1 a2 x104_111 = some (r1, r2, r3, r4)) ∧ Aside0 (kq ≤ k) ∧ Aside0 (wc.heap[gb954]? = some (.cells #[.int .i64 0, .int .i64 0, .string (⟨#[]⟩ : ByteArray)] 103 (0, 0))) ∧ Aside0 (Below w.heap.size w wc))
     case first =>
      have H := HC112.out
      clear HC112
      by_cases c114 : a0 = 5
      ·rw [if_pos c114] at H
       have c114b0 := beq_iff_eq.mpr c114
       have c114b1 := bne_eq_false_iff_eq.mpr c114
       clear c114
       (first | rw [c114b0] | (simp only [i64_w, i32_w]; rw [c114b0]) | skip)
       have H' := Aside0.mk H
       clear H
       go_wp2
       go_meet
       case rel => exact ⟨_, ((a2 == (-1))), (by first | rfl | (simp; done) | (simp [*]; done)), H', ⟨by first | omega | exact Nat.le_refl _⟩, ⟨qK⟩, ⟨qB⟩⟩
      ·rw [if_neg c114] at H
       have c114b0 := beq_eq_false_iff_ne.mpr c114
       have c114b1 := bne_iff_ne.mpr c114
       (first | rw [c114b0] | (simp only [i64_w, i32_w]; rw [c114b0]) | skip)
       have H' := Aside0.mk H
       clear H
       go_wp2
       go_meet
       case rel => exact ⟨_, (false), (by first | rfl | (simp; done) | (simp [*]; done)), H', ⟨by first | omega | exact Nat.le_refl _⟩, ⟨qK⟩, ⟨qB⟩⟩
     case rest =>
      clear HC112
      try clear c1
      try clear c2
      try clear p2
      try clear c3
      try clear c4
      try clear c4b0
      try clear c4b1
      try clear c5
      try clear c5b0
      try clear c6
      try clear c6b0
      try clear p6
      try clear c7
      try clear c8
      try clear c9
      try clear c10
      try clear c11
      try clear c11b0
      try clear c14
      try clear c15
      try clear c20
      try clear c20b0
      try clear c29
      try clear c29b0
      try clear c29b1
      try clear c30
      try clear c30b0
      try clear c31
      try clear c31b0
      try clear c36
      try clear c36b0
      try clear c45
      try clear c45b0
      try clear c54
      try clear c54b0
      try clear c54b1
      try clear c55
      try clear c55b0
      try clear c55b1
      try clear c56
      try clear c56b0
      try clear c56b1
      try clear c61
      try clear c61b0
      try clear c61b1
      try clear c62
      try clear c62b0
      try clear c62b1
      try clear p64
      try clear c67
      try clear c67b0
      try clear c67b1
      try clear c76
      try clear c76b0
      try clear c76b1
      try clear c85
      try clear c85b0
      try clear c85b1
      try clear c86
      try clear c86b0
      try clear c86b1
      try clear c91
      try clear c91b0
      try clear c91b1
      try clear c100
      try clear c100b0
      try clear c100b1
      try clear c109
      try clear c109b0
      try clear c109b1
      try clear c114
      try clear c114b0
      try clear c114b1
      try clear hcz104_0 hcz104_1 hcz104_2 hfz104_0 hfz104_1 hfz104_2
      try clear hcz108_0 hcz108_1 hcz108_2 hfz108_0 hfz108_1 hfz108_2
      try clear hcz10_0 hcz10_1 hcz10_2 hfz10_0 hfz10_1 hfz10_2
      try clear hcz111_0 hcz111_1 hcz111_2 hfz111_0 hfz111_1 hfz111_2
      try clear hcz15_0 hcz15_1 hcz15_2 hfz15_0 hfz15_1 hfz15_2
      try clear hcz19_0 hcz19_1 hcz19_2 hfz19_0 hfz19_1 hfz19_2
      try clear hcz24_0 hcz24_1 hcz24_2 hfz24_0 hfz24_1 hfz24_2
      try clear hcz28_0 hcz28_1 hcz28_2 hfz28_0 hfz28_1 hfz28_2
      try clear hcz35_0 hcz35_1 hcz35_2 hfz35_0 hfz35_1 hfz35_2
      try clear hcz40_0 hcz40_1 hcz40_2 hfz40_0 hfz40_1 hfz40_2
      try clear hcz44_0 hcz44_1 hcz44_2 hfz44_0 hfz44_1 hfz44_2
      try clear hcz49_0 hcz49_1 hcz49_2 hfz49_0 hfz49_1 hfz49_2
      try clear hcz53_0 hcz53_1 hcz53_2 hfz53_0 hfz53_1 hfz53_2
      try clear hcz60_0 hcz60_1 hcz60_2 hfz60_0 hfz60_1 hfz60_2
      try clear hcz66_0 hcz66_1 hcz66_2 hfz66_0 hfz66_1 hfz66_2
      try clear hcz71_0 hcz71_1 hcz71_2 hfz71_0 hfz71_1 hfz71_2
      try clear hcz75_0 hcz75_1 hcz75_2 hfz75_0 hfz75_1 hfz75_2
      try clear hcz80_0 hcz80_1 hcz80_2 hfz80_0 hfz80_1 hfz80_2
      try clear hcz84_0 hcz84_1 hcz84_2 hfz84_0 hfz84_1 hfz84_2
      try clear hcz90_0 hcz90_1 hcz90_2 hfz90_0 hfz90_1 hfz90_2
      try clear hcz95_0 hcz95_1 hcz95_2 hfz95_0 hfz95_1 hfz95_2
      try clear hcz99_0 hcz99_1 hcz99_2 hfz99_0 hfz99_1 hfz99_2
      obtain ⟨kq, x104_111, rfl, HA, HJ111, BK954, HB⟩ := hcut
      cases kq with
      | zero => exact absurd HA.out (by simp [val_number.j0])
      | succ kj111 =>
       have H := HA.out
       clear HA
       simp only [val_number.j0] at H
       by_cases c115 : x104_111 = true
       ·subst c115
        rw [if_pos rfl] at H
        replace H := Option.bind_eq_some_iff.mp H
        obtain ⟨⟨t1039, t1040, t1041⟩, A1160, H⟩ := H
        (try dsimp -simprocs only at H)
        have A116 := Aside0.mk A1160
        clear A1160
        simp only [Option.some.injEq, Prod.mk.injEq] at H
        obtain ⟨rfl, rfl, rfl, rfl⟩ := H
        go_wp2_with (first | ((with_reducible refine gc 96 rfl ?_); refine gl (some 111) #[.int .i64 0] Tryd.func96 ?_; (with_reducible refine (val_Of.calls 0 t1039 t1040 t1041 _ A116.out).mono ?_); rintro e w117 ⟨rfl, hb⟩; refine ⟨_, rfl, ?_⟩; replace BK954 := kb gb954 hb; replace HB := bst hb; (try clear hb); obtain ⟨hcz118_0, hcz118_1, hcz118_2, hfz118_0, hfz118_1, hfz118_2⟩ := cells3 BK954.out))
        refine bodyPost_ret (results_ct rfl _ _ gb954 103 #[.int .i64 t1039, .int .i64 t1040, .string t1041] (0, 0) _ rfl qP Tryd.underlying103 rfl (by kernel_rfl)) rfl ?_
        exact ⟨qR, qB⟩
       ·replace c115 := Bool.eq_false_iff.mpr c115
        subst c115
        rw [if_neg (show ¬ (false = true) by decide)] at H
        by_cases c119 : a0 = 5
        ·rw [if_pos c119] at H
         have c119b0 := beq_iff_eq.mpr c119
         have c119b1 := bne_eq_false_iff_eq.mpr c119
         clear c119
         by_cases c120 : a2 = 0
         ·rw [if_pos c120] at H
          exact absurd H (by simp)
         ·rw [if_neg c120] at H
          have c120b0 := beq_eq_false_iff_ne.mpr c120
          have c120b1 := bne_iff_ne.mpr c120
          replace H := Option.bind_eq_some_iff.mp H
          obtain ⟨⟨t1042, t1043, t1044⟩, A1210, H⟩ := H
          (try dsimp -simprocs only at H)
          have A121 := Aside0.mk A1210
          clear A1210
          simp only [Option.some.injEq, Prod.mk.injEq] at H
          obtain ⟨rfl, rfl, rfl, rfl⟩ := H
          go_wp2_with (first | ((with_reducible refine gc 96 rfl ?_); refine gl (some 118) #[.int .i64 (Int.tmod a1 a2)] Tryd.func96 ?_; (with_reducible refine (val_Of.calls (Int.tmod a1 a2) t1042 t1043 t1044 _ A121.out).mono ?_); rintro e w122 ⟨rfl, hb⟩; refine ⟨_, rfl, ?_⟩; replace BK954 := kb gb954 hb; replace HB := bst hb; (try clear hb); obtain ⟨hcz123_0, hcz123_1, hcz123_2, hfz123_0, hfz123_1, hfz123_2⟩ := cells3 BK954.out))
          refine bodyPost_ret (results_ct rfl _ _ gb954 103 #[.int .i64 t1042, .int .i64 t1043, .string t1044] (0, 0) _ rfl qP Tryd.underlying103 rfl (by kernel_rfl)) rfl ?_
          exact ⟨qR, qB⟩
        ·rw [if_neg c119] at H
         have c119b0 := beq_eq_false_iff_ne.mpr c119
         have c119b1 := bne_iff_ne.mpr c119
         by_cases c124 : a2 = (-1)
         ·rw [if_pos c124] at H
          have c124b0 := beq_iff_eq.mpr c124
          have c124b1 := bne_eq_false_iff_eq.mpr c124
          clear c124
          replace H := Option.bind_eq_some_iff.mp H
          obtain ⟨⟨t1045, t1046, t1047, t1048⟩, A1250, H⟩ := H
          (try dsimp -simprocs only at H)
          have A125 := Aside0.mk A1250
          clear A1250
          simp only [Option.some.injEq, Prod.mk.injEq] at H
          obtain ⟨rfl, rfl, rfl, rfl⟩ := H
          go_wp2_with (first | ((with_reducible refine gc 146 rfl ?_); refine gl (some 126) #[.int .i64 (wrap64 (-a1)), .bool (a1 == (-9223372036854775808))] Tryd.func146 ?_; (with_reducible refine (val_over.calls (wrap64 (-a1)) (a1 == (-9223372036854775808)) t1045 t1046 t1047 t1048 _ A125.out).mono ?_); rintro e w126 ⟨rfl, hb⟩; refine ⟨_, rfl, ?_⟩; replace BK954 := kb gb954 hb; replace HB := bst hb; (try clear hb); obtain ⟨hcz127_0, hcz127_1, hcz127_2, hfz127_0, hfz127_1, hfz127_2⟩ := cells3 BK954.out))
          refine bodyPost_ret (results_ct rfl _ _ gb954 103 #[.int .i64 t1045, .int .i64 t1046, .string t1047] (0, 0) _ rfl qP Tryd.underlying103 rfl (by kernel_rfl)) rfl ?_
          exact ⟨qR, qB⟩
         ·rw [if_neg c124] at H
          have c124b0 := beq_eq_false_iff_ne.mpr c124
          have c124b1 := bne_iff_ne.mpr c124
          by_cases c128 : a2 = 0
          ·rw [if_pos c128] at H
           exact absurd H (by simp)
          ·rw [if_neg c128] at H
           have c128b0 := beq_eq_false_iff_ne.mpr c128
           have c128b1 := bne_iff_ne.mpr c128
           replace H := Option.bind_eq_some_iff.mp H
           obtain ⟨⟨t1049, t1050, t1051⟩, A1290, H⟩ := H
           (try dsimp -simprocs only at H)
           have A129 := Aside0.mk A1290
           clear A1290
           simp only [Option.some.injEq, Prod.mk.injEq] at H
           obtain ⟨rfl, rfl, rfl, rfl⟩ := H
           go_wp2_with (first | ((with_reducible refine gc 96 rfl ?_); refine gl (some 132) #[.int .i64 (wrap64 (Int.tdiv a1 a2))] Tryd.func96 ?_; (with_reducible refine (val_Of.calls (wrap64 (Int.tdiv a1 a2)) t1049 t1050 t1051 _ A129.out).mono ?_); rintro e w130 ⟨rfl, hb⟩; refine ⟨_, rfl, ?_⟩; replace BK954 := kb gb954 hb; replace HB := bst hb; (try clear hb); obtain ⟨hcz131_0, hcz131_1, hcz131_2, hfz131_0, hfz131_1, hfz131_2⟩ := cells3 BK954.out))
           refine bodyPost_ret (results_ct rfl _ _ gb954 103 #[.int .i64 t1049, .int .i64 t1050, .string t1051] (0, 0) _ rfl qP Tryd.underlying103 rfl (by kernel_rfl)) rfl ?_
           exact ⟨qR, qB⟩
end Go.Proofs.YtbngfhlciebeeaaDoor.L
