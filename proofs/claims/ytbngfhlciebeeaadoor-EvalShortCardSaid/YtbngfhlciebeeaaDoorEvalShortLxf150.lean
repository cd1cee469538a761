/- Printed and hand-written steps towards the row (EvalShort), those that it reaches. -/
import Derived.Test.YtbngfhlciebeeaaDoorEvalShortG3
import Derived.Test.YtbngfhlciebeeaaDoorEvalShortG4
import Derived.Test.YtbngfhlciebeeaaDoorEvalShortG12
import Derived.Test.YtbngfhlciebeeaaDoorEvalShortG15
namespace Go.Proofs.YtbngfhlciebeeaaDoor.L
open Go.RowKit Go.Proofs.YtbngfhlciebeeaaDoorW.PrintWords Go.Proofs.YtbngfhlciebeeaaDoorW.PrintLast Go.Proofs.YtbngfhlciebeeaaDoorW.PrintMore
attribute [local go_sem] max2_int min2_int max_two min_two max_three min_three max_four min_four   -- for this text's walks alone
set_option linter.unusedVariables false
set_option linter.unusedSimpArgs false
def val_number.j0 : Nat → Int → Int → Int → Bool → Option (Int × Int × ByteArray × Int)
 | 0, _, _, _, _ => none
 | k + 1, x0, x1, x2, x104 => if x104 = true then ((val_Of.f 0).bind fun bt1039 => (some (bt1039.1, bt1039.2.1, bt1039.2.2, 0))) else (if x0 = 5 then (if x2 = 0 then (none) else ((val_Of.f (Int.tmod x1 x2)).bind fun bt1042 => (some (bt1042.1, bt1042.2.1, bt1042.2.2, 0)))) else (if x2 = (-1) then ((val_over.f (wrap64 (-x1)) (x1 == (-9223372036854775808))).bind fun bt1045 => (some (bt1045.1, bt1045.2.1, bt1045.2.2.1, bt1045.2.2.2))) else (if x2 = 0 then (none) else ((val_Of.f (wrap64 (Int.tdiv x1 x2))).bind fun bt1049 => (some (bt1049.1, bt1049.2.1, bt1049.2.2, 0))))))
def val_number.f (k : Nat) (a0 : Int) (a1 : Int) (a2 : Int) : Option (Int × Int × ByteArray × Int) := if a0 = 6 then (if a2 > 0 then (if (wrap64 (a1 + a2)) < a1 then ((val_over.f (wrap64 (a1 + a2)) true).bind fun bt955 => (some (bt955.1, bt955.2.1, bt955.2.2.1, bt955.2.2.2))) else (if a2 < 0 then ((val_over.f (wrap64 (a1 + a2)) (decide ((wrap64 (a1 + a2)) > a1))).bind fun bt959 => (some (bt959.1, bt959.2.1, bt959.2.2.1, bt959.2.2.2))) else ((val_over.f (wrap64 (a1 + a2)) false).bind fun bt963 => (some (bt963.1, bt963.2.1, bt963.2.2.1, bt963.2.2.2))))) else (if a2 < 0 then ((val_over.f (wrap64 (a1 + a2)) (decide ((wrap64 (a1 + a2)) > a1))).bind fun bt967 => (some (bt967.1, bt967.2.1, bt967.2.2.1, bt967.2.2.2))) else ((val_over.f (wrap64 (a1 + a2)) false).bind fun bt971 => (some (bt971.1, bt971.2.1, bt971.2.2.1, bt971.2.2.2))))) else (if a0 = 7 then (if a2 < 0 then (if (wrap64 (a1 - a2)) < a1 then ((val_over.f (wrap64 (a1 - a2)) true).bind fun bt975 => (some (bt975.1, bt975.2.1, bt975.2.2.1, bt975.2.2.2))) else (if a2 > 0 then ((val_over.f (wrap64 (a1 - a2)) (decide ((wrap64 (a1 - a2)) > a1))).bind fun bt979 => (some (bt979.1, bt979.2.1, bt979.2.2.1, bt979.2.2.2))) else ((val_over.f (wrap64 (a1 - a2)) false).bind fun bt983 => (some (bt983.1, bt983.2.1, bt983.2.2.1, bt983.2.2.2))))) else (if a2 > 0 then ((val_over.f (wrap64 (a1 - a2)) (decide ((wrap64 (a1 - a2)) > a1))).bind fun bt987 => (some (bt987.1, bt987.2.1, bt987.2.2.1, bt987.2.2.2))) else ((val_over.f (wrap64 (a1 - a2)) false).bind fun bt991 => (some (bt991.1, bt991.2.1, bt991.2.2.1, bt991.2.2.2))))) else (if a0 = 3 then (if a1 = (-1) then (if a2 = (-9223372036854775808) then ((val_over.f (wrap64 (a1 * a2)) true).bind fun bt995 => (some (bt995.1, bt995.2.1, bt995.2.2.1, bt995.2.2.2))) else (if a2 = (-1) then (if a1 = (-9223372036854775808) then ((val_over.f (wrap64 (a1 * a2)) true).bind fun bt999 => (some (bt999.1, bt999.2.1, bt999.2.2.1, bt999.2.2.2))) else (if a1 = 0 then ((val_over.f (wrap64 (a1 * a2)) false).bind fun bt1003 => (some (bt1003.1, bt1003.2.1, bt1003.2.2.1, bt1003.2.2.2))) else ((val_over.f (wrap64 (a1 * a2)) false).bind fun bt1007 => (some (bt1007.1, bt1007.2.1, bt1007.2.2.1, bt1007.2.2.2))))) else (if a1 = 0 then ((val_over.f (wrap64 (a1 * a2)) false).bind fun bt1011 => (some (bt1011.1, bt1011.2.1, bt1011.2.2.1, bt1011.2.2.2))) else ((val_over.f (wrap64 (a1 * a2)) false).bind fun bt1015 => (some (bt1015.1, bt1015.2.1, bt1015.2.2.1, bt1015.2.2.2)))))) else (if a2 = (-1) then (if a1 = (-9223372036854775808) then ((val_over.f (wrap64 (a1 * a2)) true).bind fun bt1019 => (some (bt1019.1, bt1019.2.1, bt1019.2.2.1, bt1019.2.2.2))) else (if a1 = 0 then ((val_over.f (wrap64 (a1 * a2)) false).bind fun bt1023 => (some (bt1023.1, bt1023.2.1, bt1023.2.2.1, bt1023.2.2.2))) else ((val_over.f (wrap64 (a1 * a2)) ((wrap64 (Int.tdiv (wrap64 (a1 * a2)) a1)) != a2)).bind fun bt1027 => (some (bt1027.1, bt1027.2.1, bt1027.2.2.1, bt1027.2.2.2))))) else (if a1 = 0 then ((val_over.f (wrap64 (a1 * a2)) false).bind fun bt1031 => (some (bt1031.1, bt1031.2.1, bt1031.2.2.1, bt1031.2.2.2))) else ((val_over.f (wrap64 (a1 * a2)) ((wrap64 (Int.tdiv (wrap64 (a1 * a2)) a1)) != a2)).bind fun bt1035 => (some (bt1035.1, bt1035.2.1, bt1035.2.2.1, bt1035.2.2.2)))))) else (if a2 = 0 then (some (0, 0, (⟨#[]⟩ : ByteArray), 22)) else (if a0 = 5 then (val_number.j0 k a0 a1 a2 (a2 == (-1))) else (val_number.j0 k a0 a1 a2 false)))))
set_option maxHeartbeats 8000000 in
set_option maxRecDepth 100000 in
theorem val_number.calls (k : Nat) (a0 : Int) (a1 : Int) (a2 : Int) (r1 : Int) (r2 : Int) (r3 : ByteArray) (r4 : Int) (w : World) (h : val_number.f k a0 a1 a2 = some (r1, r2, r3, r4)) :
  Calls Tryd.prog 150 #[.int .i64 a0, .int .i64 a1, .int .i64 a2] w fun e w' => e = .returned (.tuple #[.agg #[.int .i64 r1, .int .i64 r2, .string r3], .int .i64 r4]) ∧ Below w.heap.size w w' := by
 have hu103 := Tryd.underlying103
 have HB := Aside0.mk (Below.refl w.heap.size w)
 have H : (if a0 = 6 then (if a2 > 0 then (if (wrap64 (a1 + a2)) < a1 then ((val_over.f (wrap64 (a1 + a2)) true).bind fun bt955 => (some (bt955.1, bt955.2.1, bt955.2.2.1, bt955.2.2.2))) else (if a2 < 0 then ((val_over.f (wrap64 (a1 + a2)) (decide ((wrap64 (a1 + a2)) > a1))).bind fun bt959 => (some (bt959.1, bt959.2.1, bt959.2.2.1, bt959.2.2.2))) else ((val_over.f (wrap64 (a1 + a2)) false).bind fun bt963 => (some (bt963.1, bt963.2.1, bt963.2.2.1, bt963.2.2.2))))) else (if a2 < 0 then ((val_over.f (wrap64 (a1 + a2)) (decide ((wrap64 (a1 + a2)) > a1))).bind fun bt967 => (some (bt967.1, bt967.2.1, bt967.2.2.1, bt967.2.2.2))) else ((val_over.f (wrap64 (a1 + a2)) false).bind fun bt971 => (some (bt971.1, bt971.2.1, bt971.2.2.1, bt971.2.2.2))))) else (if a0 = 7 then (if a2 < 0 then (if (wrap64 (a1 - a2)) < a1 then ((val_over.f (wrap64 (a1 - a2)) true).bind fun bt975 => (some (bt975.1, bt975.2.1, bt975.2.2.1, bt975.2.2.2))) else (if a2 > 0 then ((val_over.f (wrap64 (a1 - a2)) (decide ((wrap64 (a1 - a2)) > a1))).bind fun bt979 => (some (bt979.1, bt979.2.1, bt979.2.2.1, bt979.2.2.2))) else ((val_over.f (wrap64 (a1 - a2)) false).bind fun bt983 => (some (bt983.1, bt983.2.1, bt983.2.2.1, bt983.2.2.2))))) else (if a2 > 0 then ((val_over.f (wrap64 (a1 - a2)) (decide ((wrap64 (a1 - a2)) > a1))).bind fun bt987 => (some (bt987.1, bt987.2.1, bt987.2.2.1, bt987.2.2.2))) else ((val_over.f (wrap64 (a1 - a2)) false).bind fun bt991 => (some (bt991.1, bt991.2.1, bt991.2.2.1, bt991.2.2.2))))) else (if a0 = 3 then (if a1 = (-1) then (if a2 = (-9223372036854775808) then ((val_over.f (wrap64 (a1 * a2)) true).bind fun bt995 => (some (bt995.1, bt995.2.1, bt995.2.2.1, bt995.2.2.2))) else (if a2 = (-1) then (if a1 = (-9223372036854775808) then ((val_over.f (wrap64 (a1 * a2)) true).bind fun bt999 => (some (bt999.1, bt999.2.1, bt999.2.2.1, bt999.2.2.2))) else (if a1 = 0 then ((val_over.f (wrap64 (a1 * a2)) false).bind fun bt1003 => (some (bt1003.1, bt1003.2.1, bt1003.2.2.1, bt1003.2.2.2))) else ((val_over.f (wrap64 (a1 * a2)) false).bind fun bt1007 => (some (bt1007.1, bt1007.2.1, bt1007.2.2.1, bt1007.2.2.2))))) else (if a1 = 0 then ((val_over.f (wrap64 (a1 * a2)) false).bind fun bt1011 => (some (bt1011.1, bt1011.2.1, bt1011.2.2.1, bt1011.2.2.2))) else ((val_over.f (wrap64 (a1 * a2)) false).bind fun bt1015 => (some (bt1015.1, bt1015.2.1, bt1015.2.2.1, bt1015.2.2.2)))))) else (if a2 = (-1) then (if a1 = (-9223372036854775808) then ((val_over.f (wrap64 (a1 * a2)) true).bind fun bt1019 => (some (bt1019.1, bt1019.2.1, bt1019.2.2.1, bt1019.2.2.2))) else (if a1 = 0 then ((val_over.f (wrap64 (a1 * a2)) false).bind fun bt1023 => (some (bt1023.1, bt1023.2.1, bt1023.2.2.1, bt1023.2.2.2))) else ((val_over.f (wrap64 (a1 * a2)) ((wrap64 (Int.tdiv (wrap64 (a1 * a2)) a1)) != a2)).bind fun bt1027 => (some (bt1027.1, bt1027.2.1, bt1027.2.2.1, bt1027.2.2.2))))) else (if a1 = 0 then ((val_over.f (wrap64 (a1 * a2)) false).bind fun bt1031 => (some (bt1031.1, bt1031.2.1, bt1031.2.2.1, bt1031.2.2.2))) else ((val_over.f (wrap64 (a1 * a2)) ((wrap64 (Int.tdiv (wrap64 (a1 * a2)) a1)) != a2)).bind fun bt1035 => (some (bt1035.1, bt1035.2.1, bt1035.2.2.1, bt1035.2.2.2)))))) else (if a2 = 0 then (some (0, 0, (⟨#[]⟩ : ByteArray), 22)) else (if a0 = 5 then (val_number.j0 k a0 a1 a2 (a2 == (-1))) else (val_number.j0 k a0 a1 a2 false)))))) = some (r1, r2, r3, r4) := h
 clear h
 by_cases c4 : a0 = 6
 ·rw [if_pos c4] at H
  have c4b0 := beq_iff_eq.mpr c4
  have c4b1 := bne_eq_false_iff_eq.mpr c4
  clear c4
  replace H := iD H
  rcases H with ⟨c5b0, H⟩ | ⟨c5b0, H⟩
  ·by_cases c6 : (wrap64 (a1 + a2)) < a1
   ·rw [if_pos c6] at H
    have c6b0 := decide_eq_true c6
    clear c6
    replace H := Option.bind_eq_some_iff.mp H
    obtain ⟨⟨t955, t956, t957, t958⟩, A70, H⟩ := H
    (try dsimp -simprocs only at H)
    have A7 := Aside0.mk A70
    clear A70
    simp only [Option.some.injEq, Prod.mk.injEq] at H
    obtain ⟨rfl, rfl, rfl, rfl⟩ := H
    go_enter Tryd.func150, Tryd.ntmps150
    go_wp2_with (first | ((with_reducible refine gd 6 rfl ?_); refine bxx 6 #[.int .i64 0, .int .i64 0, .string (⟨#[]⟩ : ByteArray)] 103 ?_; intro gb954 w8 BK954 GW954 HB) | ((with_reducible refine gc 146 rfl ?_); refine gl (some 34) #[.int .i64 (wrap64 (a1 + a2)), .bool true] Tryd.func146 ?_; (with_reducible refine (val_over.calls (wrap64 (a1 + a2)) true t955 t956 t957 t958 _ A7.out).mono ?_); rintro e w9 ⟨rfl, hb⟩; refine ⟨_, rfl, ?_⟩; replace BK954 := kb gb954 hb; replace HB := bst hb; (try clear hb); obtain ⟨_, _, _, _, _, _⟩ := cells3 BK954.out))
    refine rct gb954 103 #[.int .i64 t955, .int .i64 t956, .string t957] Tryd.underlying103 ?_
    exact ⟨qR, qB⟩
   rw [if_neg c6] at H
   have c6b0 := decide_eq_false c6
   clear c6
   replace H := iD H
   rcases H with ⟨c11b0, H⟩ | ⟨c11b0, H⟩
   ·replace H := Option.bind_eq_some_iff.mp H
    obtain ⟨⟨t959, t960, t961, t962⟩, A120, H⟩ := H
    (try dsimp -simprocs only at H)
    have A12 := Aside0.mk A120
    clear A120
    simp only [Option.some.injEq, Prod.mk.injEq] at H
    obtain ⟨rfl, rfl, rfl, rfl⟩ := H
    go_enter Tryd.func150, Tryd.ntmps150
    go_wp2_with (first | ((with_reducible refine gd 6 rfl ?_); refine bxx 6 #[.int .i64 0, .int .i64 0, .string (⟨#[]⟩ : ByteArray)] 103 ?_; intro gb954 w13 BK954 GW954 HB) | ((with_reducible refine gc 146 rfl ?_); refine gl (some 34) #[.int .i64 (wrap64 (a1 + a2)), .bool (decide ((wrap64 (a1 + a2)) > a1))] Tryd.func146 ?_; (with_reducible refine (val_over.calls (wrap64 (a1 + a2)) (decide ((wrap64 (a1 + a2)) > a1)) t959 t960 t961 t962 _ A12.out).mono ?_); rintro e w14 ⟨rfl, hb⟩; refine ⟨_, rfl, ?_⟩; replace BK954 := kb gb954 hb; replace HB := bst hb; (try clear hb); obtain ⟨_, _, _, _, _, _⟩ := cells3 BK954.out))
    refine rct gb954 103 #[.int .i64 t959, .int .i64 t960, .string t961] Tryd.underlying103 ?_
    exact ⟨qR, qB⟩
   replace H := Option.bind_eq_some_iff.mp H
   obtain ⟨⟨t963, t964, t965, t966⟩, A160, H⟩ := H
   (try dsimp -simprocs only at H)
   have A16 := Aside0.mk A160
   clear A160
   simp only [Option.some.injEq, Prod.mk.injEq] at H
   obtain ⟨rfl, rfl, rfl, rfl⟩ := H
   go_enter Tryd.func150, Tryd.ntmps150
   go_wp2_with (first | ((with_reducible refine gd 6 rfl ?_); refine bxx 6 #[.int .i64 0, .int .i64 0, .string (⟨#[]⟩ : ByteArray)] 103 ?_; intro gb954 w17 BK954 GW954 HB) | ((with_reducible refine gc 146 rfl ?_); refine gl (some 34) #[.int .i64 (wrap64 (a1 + a2)), .bool false] Tryd.func146 ?_; (with_reducible refine (val_over.calls (wrap64 (a1 + a2)) false t963 t964 t965 t966 _ A16.out).mono ?_); rintro e w18 ⟨rfl, hb⟩; refine ⟨_, rfl, ?_⟩; replace BK954 := kb gb954 hb; replace HB := bst hb; (try clear hb); obtain ⟨_, _, _, _, _, _⟩ := cells3 BK954.out))
   refine rct gb954 103 #[.int .i64 t963, .int .i64 t964, .string t965] Tryd.underlying103 ?_
   exact ⟨qR, qB⟩
  by_cases c20 : a2 < 0
  ·rw [if_pos c20] at H
   have c20b0 := decide_eq_true c20
   clear c20
   replace H := Option.bind_eq_some_iff.mp H
   obtain ⟨⟨t967, t968, t969, t970⟩, A210, H⟩ := H
   (try dsimp -simprocs only at H)
   have A21 := Aside0.mk A210
   clear A210
   simp only [Option.some.injEq, Prod.mk.injEq] at H
   obtain ⟨rfl, rfl, rfl, rfl⟩ := H
   go_enter Tryd.func150, Tryd.ntmps150
   go_wp2_with (first | ((with_reducible refine gd 6 rfl ?_); refine bxx 6 #[.int .i64 0, .int .i64 0, .string (⟨#[]⟩ : ByteArray)] 103 ?_; intro gb954 w22 BK954 GW954 HB) | ((with_reducible refine gc 146 rfl ?_); refine gl (some 34) #[.int .i64 (wrap64 (a1 + a2)), .bool (decide ((wrap64 (a1 + a2)) > a1))] Tryd.func146 ?_; (with_reducible refine (val_over.calls (wrap64 (a1 + a2)) (decide ((wrap64 (a1 + a2)) > a1)) t967 t968 t969 t970 _ A21.out).mono ?_); rintro e w23 ⟨rfl, hb⟩; refine ⟨_, rfl, ?_⟩; replace BK954 := kb gb954 hb; replace HB := bst hb; (try clear hb); obtain ⟨_, _, _, _, _, _⟩ := cells3 BK954.out))
   refine rct gb954 103 #[.int .i64 t967, .int .i64 t968, .string t969] Tryd.underlying103 ?_
   exact ⟨qR, qB⟩
  rw [if_neg c20] at H
  have c20b0 := decide_eq_false c20
  clear c20
  replace H := Option.bind_eq_some_iff.mp H
  obtain ⟨⟨t971, t972, t973, t974⟩, A250, H⟩ := H
  (try dsimp -simprocs only at H)
  have A25 := Aside0.mk A250
  clear A250
  simp only [Option.some.injEq, Prod.mk.injEq] at H
  obtain ⟨rfl, rfl, rfl, rfl⟩ := H
  go_enter Tryd.func150, Tryd.ntmps150
  go_wp2_with (first | ((with_reducible refine gd 6 rfl ?_); refine bxx 6 #[.int .i64 0, .int .i64 0, .string (⟨#[]⟩ : ByteArray)] 103 ?_; intro gb954 w26 BK954 GW954 HB) | ((with_reducible refine gc 146 rfl ?_); refine gl (some 34) #[.int .i64 (wrap64 (a1 + a2)), .bool false] Tryd.func146 ?_; (with_reducible refine (val_over.calls (wrap64 (a1 + a2)) false t971 t972 t973 t974 _ A25.out).mono ?_); rintro e w27 ⟨rfl, hb⟩; refine ⟨_, rfl, ?_⟩; replace BK954 := kb gb954 hb; replace HB := bst hb; (try clear hb); obtain ⟨_, _, _, _, _, _⟩ := cells3 BK954.out))
  refine rct gb954 103 #[.int .i64 t971, .int .i64 t972, .string t973] Tryd.underlying103 ?_
  exact ⟨qR, qB⟩
 rw [if_neg c4] at H
 have c4b0 := beq_eq_false_iff_ne.mpr c4
 have c4b1 := bne_iff_ne.mpr c4
 by_cases c29 : a0 = 7
 ·rw [if_pos c29] at H
  have c29b0 := beq_iff_eq.mpr c29
  have c29b1 := bne_eq_false_iff_eq.mpr c29
  clear c29
  replace H := iD H
  rcases H with ⟨c30b0, H⟩ | ⟨c30b0, H⟩
  ·by_cases c31 : (wrap64 (a1 - a2)) < a1
   ·rw [if_pos c31] at H
    have c31b0 := decide_eq_true c31
    clear c31
    replace H := Option.bind_eq_some_iff.mp H
    obtain ⟨⟨t975, t976, t977, t978⟩, A320, H⟩ := H
    (try dsimp -simprocs only at H)
    have A32 := Aside0.mk A320
    clear A320
    simp only [Option.some.injEq, Prod.mk.injEq] at H
    obtain ⟨rfl, rfl, rfl, rfl⟩ := H
    go_enter Tryd.func150, Tryd.ntmps150
    go_wp2_with (first | ((with_reducible refine gd 6 rfl ?_); refine bxx 6 #[.int .i64 0, .int .i64 0, .string (⟨#[]⟩ : ByteArray)] 103 ?_; intro gb954 w33 BK954 GW954 HB) | ((with_reducible refine gc 146 rfl ?_); refine gl (some 59) #[.int .i64 (wrap64 (a1 - a2)), .bool true] Tryd.func146 ?_; (with_reducible refine (val_over.calls (wrap64 (a1 - a2)) true t975 t976 t977 t978 _ A32.out).mono ?_); rintro e w34 ⟨rfl, hb⟩; refine ⟨_, rfl, ?_⟩; replace BK954 := kb gb954 hb; replace HB := bst hb; (try clear hb); obtain ⟨_, _, _, _, _, _⟩ := cells3 BK954.out))
    refine rct gb954 103 #[.int .i64 t975, .int .i64 t976, .string t977] Tryd.underlying103 ?_
    exact ⟨qR, qB⟩
   rw [if_neg c31] at H
   have c31b0 := decide_eq_false c31
   clear c31
   replace H := iD H
   rcases H with ⟨c36b0, H⟩ | ⟨c36b0, H⟩
   ·replace H := Option.bind_eq_some_iff.mp H
    obtain ⟨⟨t979, t980, t981, t982⟩, A370, H⟩ := H
    (try dsimp -simprocs only at H)
    have A37 := Aside0.mk A370
    clear A370
    simp only [Option.some.injEq, Prod.mk.injEq] at H
    obtain ⟨rfl, rfl, rfl, rfl⟩ := H
    go_enter Tryd.func150, Tryd.ntmps150
    go_wp2_with (first | ((with_reducible refine gd 6 rfl ?_); refine bxx 6 #[.int .i64 0, .int .i64 0, .string (⟨#[]⟩ : ByteArray)] 103 ?_; intro gb954 w38 BK954 GW954 HB) | ((with_reducible refine gc 146 rfl ?_); refine gl (some 59) #[.int .i64 (wrap64 (a1 - a2)), .bool (decide ((wrap64 (a1 - a2)) > a1))] Tryd.func146 ?_; (with_reducible refine (val_over.calls (wrap64 (a1 - a2)) (decide ((wrap64 (a1 - a2)) > a1)) t979 t980 t981 t982 _ A37.out).mono ?_); rintro e w39 ⟨rfl, hb⟩; refine ⟨_, rfl, ?_⟩; replace BK954 := kb gb954 hb; replace HB := bst hb; (try clear hb); obtain ⟨_, _, _, _, _, _⟩ := cells3 BK954.out))
    refine rct gb954 103 #[.int .i64 t979, .int .i64 t980, .string t981] Tryd.underlying103 ?_
    exact ⟨qR, qB⟩
   replace H := Option.bind_eq_some_iff.mp H
   obtain ⟨⟨t983, t984, t985, t986⟩, A410, H⟩ := H
   (try dsimp -simprocs only at H)
   have A41 := Aside0.mk A410
   clear A410
   simp only [Option.some.injEq, Prod.mk.injEq] at H
   obtain ⟨rfl, rfl, rfl, rfl⟩ := H
   go_enter Tryd.func150, Tryd.ntmps150
   go_wp2_with (first | ((with_reducible refine gd 6 rfl ?_); refine bxx 6 #[.int .i64 0, .int .i64 0, .string (⟨#[]⟩ : ByteArray)] 103 ?_; intro gb954 w42 BK954 GW954 HB) | ((with_reducible refine gc 146 rfl ?_); refine gl (some 59) #[.int .i64 (wrap64 (a1 - a2)), .bool false] Tryd.func146 ?_; (with_reducible refine (val_over.calls (wrap64 (a1 - a2)) false t983 t984 t985 t986 _ A41.out).mono ?_); rintro e w43 ⟨rfl, hb⟩; refine ⟨_, rfl, ?_⟩; replace BK954 := kb gb954 hb; replace HB := bst hb; (try clear hb); obtain ⟨_, _, _, _, _, _⟩ := cells3 BK954.out))
   refine rct gb954 103 #[.int .i64 t983, .int .i64 t984, .string t985] Tryd.underlying103 ?_
   exact ⟨qR, qB⟩
  by_cases c45 : a2 > 0
  ·rw [if_pos c45] at H
   have c45b0 := decide_eq_true c45
   clear c45
   replace H := Option.bind_eq_some_iff.mp H
   obtain ⟨⟨t987, t988, t989, t990⟩, A460, H⟩ := H
   (try dsimp -simprocs only at H)
   have A46 := Aside0.mk A460
   clear A460
   simp only [Option.some.injEq, Prod.mk.injEq] at H
   obtain ⟨rfl, rfl, rfl, rfl⟩ := H
   go_enter Tryd.func150, Tryd.ntmps150
   go_wp2_with (first | ((with_reducible refine gd 6 rfl ?_); refine bxx 6 #[.int .i64 0, .int .i64 0, .string (⟨#[]⟩ : ByteArray)] 103 ?_; intro gb954 w47 BK954 GW954 HB) | ((with_reducible refine gc 146 rfl ?_); refine gl (some 59) #[.int .i64 (wrap64 (a1 - a2)), .bool (decide ((wrap64 (a1 - a2)) > a1))] Tryd.func146 ?_; (with_reducible refine (val_over.calls (wrap64 (a1 - a2)) (decide ((wrap64 (a1 - a2)) > a1)) t987 t988 t989 t990 _ A46.out).mono ?_); rintro e w48 ⟨rfl, hb⟩; refine ⟨_, rfl, ?_⟩; replace BK954 := kb gb954 hb; replace HB := bst hb; (try clear hb); obtain ⟨_, _, _, _, _, _⟩ := cells3 BK954.out))
   refine rct gb954 103 #[.int .i64 t987, .int .i64 t988, .string t989] Tryd.underlying103 ?_
   exact ⟨qR, qB⟩
  rw [if_neg c45] at H
  have c45b0 := decide_eq_false c45
  clear c45
  replace H := Option.bind_eq_some_iff.mp H
  obtain ⟨⟨t991, t992, t993, t994⟩, A500, H⟩ := H
  (try dsimp -simprocs only at H)
  have A50 := Aside0.mk A500
  clear A500
  simp only [Option.some.injEq, Prod.mk.injEq] at H
  obtain ⟨rfl, rfl, rfl, rfl⟩ := H
  go_enter Tryd.func150, Tryd.ntmps150
  go_wp2_with (first | ((with_reducible refine gd 6 rfl ?_); refine bxx 6 #[.int .i64 0, .int .i64 0, .string (⟨#[]⟩ : ByteArray)] 103 ?_; intro gb954 w51 BK954 GW954 HB) | ((with_reducible refine gc 146 rfl ?_); refine gl (some 59) #[.int .i64 (wrap64 (a1 - a2)), .bool false] Tryd.func146 ?_; (with_reducible refine (val_over.calls (wrap64 (a1 - a2)) false t991 t992 t993 t994 _ A50.out).mono ?_); rintro e w52 ⟨rfl, hb⟩; refine ⟨_, rfl, ?_⟩; replace BK954 := kb gb954 hb; replace HB := bst hb; (try clear hb); obtain ⟨_, _, _, _, _, _⟩ := cells3 BK954.out))
  refine rct gb954 103 #[.int .i64 t991, .int .i64 t992, .string t993] Tryd.underlying103 ?_
  exact ⟨qR, qB⟩
 rw [if_neg c29] at H
 have c29b0 := beq_eq_false_iff_ne.mpr c29
 have c29b1 := bne_iff_ne.mpr c29
 by_cases c54 : a0 = 3
 ·rw [if_pos c54] at H
  have c54b0 := beq_iff_eq.mpr c54
  have c54b1 := bne_eq_false_iff_eq.mpr c54
  clear c54
  by_cases c55 : a1 = (-1)
  ·rw [if_pos c55] at H
   have c55b0 := beq_iff_eq.mpr c55
   have c55b1 := bne_eq_false_iff_eq.mpr c55
   clear c55
   by_cases c56 : a2 = (-9223372036854775808)
   ·rw [if_pos c56] at H
    have c56b0 := beq_iff_eq.mpr c56
    have c56b1 := bne_eq_false_iff_eq.mpr c56
    clear c56
    replace H := Option.bind_eq_some_iff.mp H
    obtain ⟨⟨t995, t996, t997, t998⟩, A570, H⟩ := H
    (try dsimp -simprocs only at H)
    have A57 := Aside0.mk A570
    clear A570
    simp only [Option.some.injEq, Prod.mk.injEq] at H
    obtain ⟨rfl, rfl, rfl, rfl⟩ := H
    go_enter Tryd.func150, Tryd.ntmps150
    go_wp2_with (first | ((with_reducible refine gd 6 rfl ?_); refine bxx 6 #[.int .i64 0, .int .i64 0, .string (⟨#[]⟩ : ByteArray)] 103 ?_; intro gb954 w58 BK954 GW954 HB) | ((with_reducible refine gc 146 rfl ?_); refine gl (some 97) #[.int .i64 (wrap64 (a1 * a2)), .bool true] Tryd.func146 ?_; (with_reducible refine (val_over.calls (wrap64 (a1 * a2)) true t995 t996 t997 t998 _ A57.out).mono ?_); rintro e w59 ⟨rfl, hb⟩; refine ⟨_, rfl, ?_⟩; replace BK954 := kb gb954 hb; replace HB := bst hb; (try clear hb); obtain ⟨_, _, _, _, _, _⟩ := cells3 BK954.out))
    refine rct gb954 103 #[.int .i64 t995, .int .i64 t996, .string t997] Tryd.underlying103 ?_
    exact ⟨qR, qB⟩
   rw [if_neg c56] at H
   have c56b0 := beq_eq_false_iff_ne.mpr c56
   have c56b1 := bne_iff_ne.mpr c56
   by_cases c61 : a2 = (-1)
   ·rw [if_pos c61] at H
    have c61b0 := beq_iff_eq.mpr c61
    have c61b1 := bne_eq_false_iff_eq.mpr c61
    clear c61
    by_cases c62 : a1 = (-9223372036854775808)
    ·rw [if_pos c62] at H; have c62b0 := beq_iff_eq.mpr c62; have c62b1 := bne_eq_false_iff_eq.mpr c62; clear c62; replace H := Option.bind_eq_some_iff.mp H; obtain ⟨⟨t999, t1000, t1001, t1002⟩, A630, H⟩ := H; (try dsimp -simprocs only at H); have A63 := Aside0.mk A630; clear A630; simp only [Option.some.injEq, Prod.mk.injEq] at H; obtain ⟨rfl, rfl, rfl, rfl⟩ := H
     go_enter Tryd.func150, Tryd.ntmps150
     go_wp2_with (first | ((with_reducible refine gd 6 rfl ?_); refine bxx 6 #[.int .i64 0, .int .i64 0, .string (⟨#[]⟩ : ByteArray)] 103 ?_; intro gb954 w64 BK954 GW954 HB) | ((with_reducible refine gc 146 rfl ?_); refine gl (some 97) #[.int .i64 (wrap64 (a1 * a2)), .bool true] Tryd.func146 ?_; (with_reducible refine (val_over.calls (wrap64 (a1 * a2)) true t999 t1000 t1001 t1002 _ A63.out).mono ?_); rintro e w65 ⟨rfl, hb⟩; refine ⟨_, rfl, ?_⟩; replace BK954 := kb gb954 hb; replace HB := bst hb; (try clear hb); obtain ⟨_, _, _, _, _, _⟩ := cells3 BK954.out))
     refine rct gb954 103 #[.int .i64 t999, .int .i64 t1000, .string t1001] Tryd.underlying103 ?_; exact ⟨qR, qB⟩
    rw [if_neg c62] at H
    have c62b0 := beq_eq_false_iff_ne.mpr c62
    have c62b1 := bne_iff_ne.mpr c62
    by_cases c67 : a1 = 0
    ·rw [if_pos c67] at H; have c67b0 := beq_iff_eq.mpr c67; have c67b1 := bne_eq_false_iff_eq.mpr c67; clear c67; replace H := Option.bind_eq_some_iff.mp H; obtain ⟨⟨t1003, t1004, t1005, t1006⟩, A680, H⟩ := H; (try dsimp -simprocs only at H); have A68 := Aside0.mk A680; clear A680; simp only [Option.some.injEq, Prod.mk.injEq] at H; obtain ⟨rfl, rfl, rfl, rfl⟩ := H
     go_enter Tryd.func150, Tryd.ntmps150
     go_wp2_with (first | ((with_reducible refine gd 6 rfl ?_); refine bxx 6 #[.int .i64 0, .int .i64 0, .string (⟨#[]⟩ : ByteArray)] 103 ?_; intro gb954 w69 BK954 GW954 HB) | ((with_reducible refine gc 146 rfl ?_); refine gl (some 97) #[.int .i64 (wrap64 (a1 * a2)), .bool false] Tryd.func146 ?_; (with_reducible refine (val_over.calls (wrap64 (a1 * a2)) false t1003 t1004 t1005 t1006 _ A68.out).mono ?_); rintro e w70 ⟨rfl, hb⟩; refine ⟨_, rfl, ?_⟩; replace BK954 := kb gb954 hb; replace HB := bst hb; (try clear hb); obtain ⟨_, _, _, _, _, _⟩ := cells3 BK954.out))
     refine rct gb954 103 #[.int .i64 t1003, .int .i64 t1004, .string t1005] Tryd.underlying103 ?_; exact ⟨qR, qB⟩
    rw [if_neg c67] at H
    have c67b0 := beq_eq_false_iff_ne.mpr c67
    have c67b1 := bne_iff_ne.mpr c67
    replace H := Option.bind_eq_some_iff.mp H
    obtain ⟨⟨t1007, t1008, t1009, t1010⟩, A720, H⟩ := H
    (try dsimp -simprocs only at H)
    have A72 := Aside0.mk A720
    clear A720
    simp only [Option.some.injEq, Prod.mk.injEq] at H
    obtain ⟨rfl, rfl, rfl, rfl⟩ := H
    go_enter Tryd.func150, Tryd.ntmps150
    go_wp2_with (first | ((with_reducible refine gd 6 rfl ?_); refine bxx 6 #[.int .i64 0, .int .i64 0, .string (⟨#[]⟩ : ByteArray)] 103 ?_; intro gb954 w73 BK954 GW954 HB) | ((with_reducible refine gc 146 rfl ?_); refine gl (some 97) #[.int .i64 (wrap64 (a1 * a2)), .bool false] Tryd.func146 ?_; (with_reducible refine (val_over.calls (wrap64 (a1 * a2)) false t1007 t1008 t1009 t1010 _ A72.out).mono ?_); rintro e w74 ⟨rfl, hb⟩; refine ⟨_, rfl, ?_⟩; replace BK954 := kb gb954 hb; replace HB := bst hb; (try clear hb); obtain ⟨_, _, _, _, _, _⟩ := cells3 BK954.out))
    refine rct gb954 103 #[.int .i64 t1007, .int .i64 t1008, .string t1009] Tryd.underlying103 ?_
    exact ⟨qR, qB⟩
   rw [if_neg c61] at H
   have c61b0 := beq_eq_false_iff_ne.mpr c61
   have c61b1 := bne_iff_ne.mpr c61
   by_cases c76 : a1 = 0
   ·rw [if_pos c76] at H
    have c76b0 := beq_iff_eq.mpr c76
    have c76b1 := bne_eq_false_iff_eq.mpr c76
    clear c76
    replace H := Option.bind_eq_some_iff.mp H
    obtain ⟨⟨t1011, t1012, t1013, t1014⟩, A770, H⟩ := H
    (try dsimp -simprocs only at H)
    have A77 := Aside0.mk A770
    clear A770
    simp only [Option.some.injEq, Prod.mk.injEq] at H
    obtain ⟨rfl, rfl, rfl, rfl⟩ := H
    go_enter Tryd.func150, Tryd.ntmps150
    go_wp2_with (first | ((with_reducible refine gd 6 rfl ?_); refine bxx 6 #[.int .i64 0, .int .i64 0, .string (⟨#[]⟩ : ByteArray)] 103 ?_; intro gb954 w78 BK954 GW954 HB) | ((with_reducible refine gc 146 rfl ?_); refine gl (some 97) #[.int .i64 (wrap64 (a1 * a2)), .bool false] Tryd.func146 ?_; (with_reducible refine (val_over.calls (wrap64 (a1 * a2)) false t1011 t1012 t1013 t1014 _ A77.out).mono ?_); rintro e w79 ⟨rfl, hb⟩; refine ⟨_, rfl, ?_⟩; replace BK954 := kb gb954 hb; replace HB := bst hb; (try clear hb); obtain ⟨_, _, _, _, _, _⟩ := cells3 BK954.out))
    refine rct gb954 103 #[.int .i64 t1011, .int .i64 t1012, .string t1013] Tryd.underlying103 ?_
    exact ⟨qR, qB⟩
   rw [if_neg c76] at H
   have c76b0 := beq_eq_false_iff_ne.mpr c76
   have c76b1 := bne_iff_ne.mpr c76
   replace H := Option.bind_eq_some_iff.mp H
   obtain ⟨⟨t1015, t1016, t1017, t1018⟩, A810, H⟩ := H
   (try dsimp -simprocs only at H)
   have A81 := Aside0.mk A810
   clear A810
   simp only [Option.some.injEq, Prod.mk.injEq] at H
   obtain ⟨rfl, rfl, rfl, rfl⟩ := H
   go_enter Tryd.func150, Tryd.ntmps150
   go_wp2_with (first | ((with_reducible refine gd 6 rfl ?_); refine bxx 6 #[.int .i64 0, .int .i64 0, .string (⟨#[]⟩ : ByteArray)] 103 ?_; intro gb954 w82 BK954 GW954 HB) | ((with_reducible refine gc 146 rfl ?_); refine gl (some 97) #[.int .i64 (wrap64 (a1 * a2)), .bool false] Tryd.func146 ?_; (with_reducible refine (val_over.calls (wrap64 (a1 * a2)) false t1015 t1016 t1017 t1018 _ A81.out).mono ?_); rintro e w83 ⟨rfl, hb⟩; refine ⟨_, rfl, ?_⟩; replace BK954 := kb gb954 hb; replace HB := bst hb; (try clear hb); obtain ⟨_, _, _, _, _, _⟩ := cells3 BK954.out))
   refine rct gb954 103 #[.int .i64 t1015, .int .i64 t1016, .string t1017] Tryd.underlying103 ?_
   exact ⟨qR, qB⟩
  rw [if_neg c55] at H
  have c55b0 := beq_eq_false_iff_ne.mpr c55
  have c55b1 := bne_iff_ne.mpr c55
  by_cases c85 : a2 = (-1)
  ·rw [if_pos c85] at H
   have c85b0 := beq_iff_eq.mpr c85
   have c85b1 := bne_eq_false_iff_eq.mpr c85
   clear c85
   by_cases c86 : a1 = (-9223372036854775808)
   ·rw [if_pos c86] at H
    have c86b0 := beq_iff_eq.mpr c86
    have c86b1 := bne_eq_false_iff_eq.mpr c86
    clear c86
    replace H := Option.bind_eq_some_iff.mp H
    obtain ⟨⟨t1019, t1020, t1021, t1022⟩, A870, H⟩ := H
    (try dsimp -simprocs only at H)
    have A87 := Aside0.mk A870
    clear A870
    simp only [Option.some.injEq, Prod.mk.injEq] at H
    obtain ⟨rfl, rfl, rfl, rfl⟩ := H
    go_enter Tryd.func150, Tryd.ntmps150
    go_wp2_with (first | ((with_reducible refine gd 6 rfl ?_); refine bxx 6 #[.int .i64 0, .int .i64 0, .string (⟨#[]⟩ : ByteArray)] 103 ?_; intro gb954 w88 BK954 GW954 HB) | ((with_reducible refine gc 146 rfl ?_); refine gl (some 97) #[.int .i64 (wrap64 (a1 * a2)), .bool true] Tryd.func146 ?_; (with_reducible refine (val_over.calls (wrap64 (a1 * a2)) true t1019 t1020 t1021 t1022 _ A87.out).mono ?_); rintro e w89 ⟨rfl, hb⟩; refine ⟨_, rfl, ?_⟩; replace BK954 := kb gb954 hb; replace HB := bst hb; (try clear hb); obtain ⟨_, _, _, _, _, _⟩ := cells3 BK954.out))
    refine rct gb954 103 #[.int .i64 t1019, .int .i64 t1020, .string t1021] Tryd.underlying103 ?_
    exact ⟨qR, qB⟩
   rw [if_neg c86] at H
   have c86b0 := beq_eq_false_iff_ne.mpr c86
   have c86b1 := bne_iff_ne.mpr c86
   by_cases c91 : a1 = 0
   ·rw [if_pos c91] at H
    have c91b0 := beq_iff_eq.mpr c91
    have c91b1 := bne_eq_false_iff_eq.mpr c91
    clear c91
    replace H := Option.bind_eq_some_iff.mp H
    obtain ⟨⟨t1023, t1024, t1025, t1026⟩, A920, H⟩ := H
    (try dsimp -simprocs only at H)
    have A92 := Aside0.mk A920
    clear A920
    simp only [Option.some.injEq, Prod.mk.injEq] at H
    obtain ⟨rfl, rfl, rfl, rfl⟩ := H
    go_enter Tryd.func150, Tryd.ntmps150
    go_wp2_with (first | ((with_reducible refine gd 6 rfl ?_); refine bxx 6 #[.int .i64 0, .int .i64 0, .string (⟨#[]⟩ : ByteArray)] 103 ?_; intro gb954 w93 BK954 GW954 HB) | ((with_reducible refine gc 146 rfl ?_); refine gl (some 97) #[.int .i64 (wrap64 (a1 * a2)), .bool false] Tryd.func146 ?_; (with_reducible refine (val_over.calls (wrap64 (a1 * a2)) false t1023 t1024 t1025 t1026 _ A92.out).mono ?_); rintro e w94 ⟨rfl, hb⟩; refine ⟨_, rfl, ?_⟩; replace BK954 := kb gb954 hb; replace HB := bst hb; (try clear hb); obtain ⟨_, _, _, _, _, _⟩ := cells3 BK954.out))
    refine rct gb954 103 #[.int .i64 t1023, .int .i64 t1024, .string t1025] Tryd.underlying103 ?_
    exact ⟨qR, qB⟩
   rw [if_neg c91] at H
   have c91b0 := beq_eq_false_iff_ne.mpr c91
   have c91b1 := bne_iff_ne.mpr c91
   replace H := Option.bind_eq_some_iff.mp H
   obtain ⟨⟨t1027, t1028, t1029, t1030⟩, A960, H⟩ := H
   (try dsimp -simprocs only at H)
   have A96 := Aside0.mk A960
   clear A960
   simp only [Option.some.injEq, Prod.mk.injEq] at H
   obtain ⟨rfl, rfl, rfl, rfl⟩ := H
   go_enter Tryd.func150, Tryd.ntmps150
   go_wp2_with (first | ((with_reducible refine gd 6 rfl ?_); refine bxx 6 #[.int .i64 0, .int .i64 0, .string (⟨#[]⟩ : ByteArray)] 103 ?_; intro gb954 w97 BK954 GW954 HB) | ((with_reducible refine gc 146 rfl ?_); refine gl (some 97) #[.int .i64 (wrap64 (a1 * a2)), .bool ((wrap64 (Int.tdiv (wrap64 (a1 * a2)) a1)) != a2)] Tryd.func146 ?_; (with_reducible refine (val_over.calls (wrap64 (a1 * a2)) ((wrap64 (Int.tdiv (wrap64 (a1 * a2)) a1)) != a2) t1027 t1028 t1029 t1030 _ A96.out).mono ?_); rintro e w98 ⟨rfl, hb⟩; refine ⟨_, rfl, ?_⟩; replace BK954 := kb gb954 hb; replace HB := bst hb; (try clear hb); obtain ⟨_, _, _, _, _, _⟩ := cells3 BK954.out))
   refine rct gb954 103 #[.int .i64 t1027, .int .i64 t1028, .string t1029] Tryd.underlying103 ?_
   exact ⟨qR, qB⟩
  rw [if_neg c85] at H
  have c85b0 := beq_eq_false_iff_ne.mpr c85
  have c85b1 := bne_iff_ne.mpr c85
  by_cases c100 : a1 = 0
  ·rw [if_pos c100] at H
   have c100b0 := beq_iff_eq.mpr c100
   have c100b1 := bne_eq_false_iff_eq.mpr c100
   clear c100
   replace H := Option.bind_eq_some_iff.mp H
   obtain ⟨⟨t1031, t1032, t1033, t1034⟩, A1010, H⟩ := H
   (try dsimp -simprocs only at H)
   have A101 := Aside0.mk A1010
   clear A1010
   simp only [Option.some.injEq, Prod.mk.injEq] at H
   obtain ⟨rfl, rfl, rfl, rfl⟩ := H
   go_enter Tryd.func150, Tryd.ntmps150
   go_wp2_with (first | ((with_reducible refine gd 6 rfl ?_); refine bxx 6 #[.int .i64 0, .int .i64 0, .string (⟨#[]⟩ : ByteArray)] 103 ?_; intro gb954 w102 BK954 GW954 HB) | ((with_reducible refine gc 146 rfl ?_); refine gl (some 97) #[.int .i64 (wrap64 (a1 * a2)), .bool false] Tryd.func146 ?_; (with_reducible refine (val_over.calls (wrap64 (a1 * a2)) false t1031 t1032 t1033 t1034 _ A101.out).mono ?_); rintro e w103 ⟨rfl, hb⟩; refine ⟨_, rfl, ?_⟩; replace BK954 := kb gb954 hb; replace HB := bst hb; (try clear hb); obtain ⟨_, _, _, _, _, _⟩ := cells3 BK954.out))
   refine rct gb954 103 #[.int .i64 t1031, .int .i64 t1032, .string t1033] Tryd.underlying103 ?_
   exact ⟨qR, qB⟩
  rw [if_neg c100] at H
  have c100b0 := beq_eq_false_iff_ne.mpr c100
  have c100b1 := bne_iff_ne.mpr c100
  replace H := Option.bind_eq_some_iff.mp H
  obtain ⟨⟨t1035, t1036, t1037, t1038⟩, A1050, H⟩ := H
  (try dsimp -simprocs only at H)
  have A105 := Aside0.mk A1050
  clear A1050
  simp only [Option.some.injEq, Prod.mk.injEq] at H
  obtain ⟨rfl, rfl, rfl, rfl⟩ := H
  go_enter Tryd.func150, Tryd.ntmps150
  go_wp2_with (first | ((with_reducible refine gd 6 rfl ?_); refine bxx 6 #[.int .i64 0, .int .i64 0, .string (⟨#[]⟩ : ByteArray)] 103 ?_; intro gb954 w106 BK954 GW954 HB) | ((with_reducible refine gc 146 rfl ?_); refine gl (some 97) #[.int .i64 (wrap64 (a1 * a2)), .bool ((wrap64 (Int.tdiv (wrap64 (a1 * a2)) a1)) != a2)] Tryd.func146 ?_; (with_reducible refine (val_over.calls (wrap64 (a1 * a2)) ((wrap64 (Int.tdiv (wrap64 (a1 * a2)) a1)) != a2) t1035 t1036 t1037 t1038 _ A105.out).mono ?_); rintro e w107 ⟨rfl, hb⟩; refine ⟨_, rfl, ?_⟩; replace BK954 := kb gb954 hb; replace HB := bst hb; (try clear hb); obtain ⟨_, _, _, _, _, _⟩ := cells3 BK954.out))
  refine rct gb954 103 #[.int .i64 t1035, .int .i64 t1036, .string t1037] Tryd.underlying103 ?_
  exact ⟨qR, qB⟩
 rw [if_neg c54] at H
 have c54b0 := beq_eq_false_iff_ne.mpr c54
 have c54b1 := bne_iff_ne.mpr c54
 by_cases c109 : a2 = 0
 ·rw [if_pos c109] at H
  have c109b0 := beq_iff_eq.mpr c109
  have c109b1 := bne_eq_false_iff_eq.mpr c109
  clear c109
  simp only [Option.some.injEq, Prod.mk.injEq] at H
  obtain ⟨rfl, rfl, rfl, rfl⟩ := H
  go_enter Tryd.func150, Tryd.ntmps150
  go_wp2_with (first | ((with_reducible refine gd 6 rfl ?_); refine bxx 6 #[.int .i64 0, .int .i64 0, .string (⟨#[]⟩ : ByteArray)] 103 ?_; intro gb954 w110 BK954 GW954 HB; obtain ⟨_, _, _, _, _, _⟩ := cells3 BK954.out))
  refine rct gb954 103 #[.int .i64 0, .int .i64 0, .string (⟨#[]⟩ : ByteArray)] Tryd.underlying103 ?_
  exact ⟨qR, qB⟩
 rw [if_neg c109] at H
 have c109b0 := beq_eq_false_iff_ne.mpr c109
 have c109b1 := bne_iff_ne.mpr c109
 have HC112 := Aside0.mk H
 clear H
 go_enter Tryd.func150, Tryd.ntmps150
 go_upto_region 13 with (first | ((with_reducible refine gd 6 rfl ?_); refine bxx 6 #[.int .i64 0, .int .i64 0, .string (⟨#[]⟩ : ByteArray)] 103 ?_; intro gb954 w113 BK954 GW954 HB))
 (try simp only [Act.put, List.setIfInBounds_toArray, List.set_cons_zero, List.set_cons_succ])
 go_cut [104] (fun v104 wc => ∃ (kq : Nat) (x104_111 : Bool), v104 = .bool x104_111 ∧ Aside0 (val_number.j0 kq a0 a1 a2 x104_111 = some (r1, r2, r3, r4)) ∧ Aside0 (kq ≤ k) ∧ Aside0 (wc.heap[gb954]? = some (.cells #[.int .i64 0, .int .i64 0, .string (⟨#[]⟩ : ByteArray)] 103 (0, 0))) ∧ Aside0 (Below w.heap.size w wc))
 case first =>
  have H := HC112.out
  clear HC112
  by_cases c114 : a0 = 5
  ·rw [if_pos c114] at H
   have c114b0 := beq_iff_eq.mpr c114
   have c114b1 := bne_eq_false_iff_eq.mpr c114
   clear c114
   (first | rw [c114b0] | (simp only [i64_w, i32_w]; rw [c114b0]) | skip)
   have H' := Aside0.mk H
   clear H
   go_wp2
   go_meet
   case rel => exact ⟨_, ((a2 == (-1))), qE, H', ⟨by first | omega | exact Nat.le_refl _⟩, ⟨qK⟩, ⟨qB⟩⟩
  rw [if_neg c114] at H
  have c114b0 := beq_eq_false_iff_ne.mpr c114
  have c114b1 := bne_iff_ne.mpr c114
  (first | rw [c114b0] | (simp only [i64_w, i32_w]; rw [c114b0]) | skip)
  have H' := Aside0.mk H
  clear H
  go_wp2
  go_meet
  case rel => exact ⟨_, (false), qE, H', ⟨by first | omega | exact Nat.le_refl _⟩, ⟨qK⟩, ⟨qB⟩⟩
 case rest =>
  clear HC112
  try clear p2
  try clear p6
  try clear p64
  obtain ⟨kq, x104_111, rfl, HA, HJ111, BK954, HB⟩ := hcut
  cases kq with
  | zero => exact absurd HA.out (by simp [val_number.j0])
  | succ kj111 =>
   have H := HA.out
   clear HA
   simp only [val_number.j0] at H
   by_cases c115 : x104_111 = true
   ·subst c115
    rw [if_pos rfl] at H
    replace H := Option.bind_eq_some_iff.mp H
    obtain ⟨⟨t1039, t1040, t1041⟩, A1160, H⟩ := H
    (try dsimp -simprocs only at H)
    have A116 := Aside0.mk A1160
    clear A1160
    simp only [Option.some.injEq, Prod.mk.injEq] at H
    obtain ⟨rfl, rfl, rfl, rfl⟩ := H
    go_wp2_with (first | ((with_reducible refine gc 96 rfl ?_); refine gl (some 111) #[.int .i64 0] Tryd.func96 ?_; (with_reducible refine (val_Of.calls 0 t1039 t1040 t1041 _ A116.out).mono ?_); rintro e w117 ⟨rfl, hb⟩; refine ⟨_, rfl, ?_⟩; replace BK954 := kb gb954 hb; replace HB := bst hb; (try clear hb); obtain ⟨_, _, _, _, _, _⟩ := cells3 BK954.out))
    refine rct gb954 103 #[.int .i64 t1039, .int .i64 t1040, .string t1041] Tryd.underlying103 ?_
    exact ⟨qR, qB⟩
   replace c115 := Bool.eq_false_iff.mpr c115
   subst c115
   rw [if_neg (show ¬ (false = true) by decide)] at H
   by_cases c119 : a0 = 5
   ·rw [if_pos c119] at H
    have c119b0 := beq_iff_eq.mpr c119
    have c119b1 := bne_eq_false_iff_eq.mpr c119
    clear c119
    by_cases c120 : a2 = 0
    ·rw [if_pos c120] at H; exact absurd H (by simp)
    rw [if_neg c120] at H
    have c120b0 := beq_eq_false_iff_ne.mpr c120
    have c120b1 := bne_iff_ne.mpr c120
    replace H := Option.bind_eq_some_iff.mp H
    obtain ⟨⟨t1042, t1043, t1044⟩, A1210, H⟩ := H
    (try dsimp -simprocs only at H)
    have A121 := Aside0.mk A1210
    clear A1210
    simp only [Option.some.injEq, Prod.mk.injEq] at H
    obtain ⟨rfl, rfl, rfl, rfl⟩ := H
    go_wp2_with (first | ((with_reducible refine gc 96 rfl ?_); refine gl (some 118) #[.int .i64 (Int.tmod a1 a2)] Tryd.func96 ?_; (with_reducible refine (val_Of.calls (Int.tmod a1 a2) t1042 t1043 t1044 _ A121.out).mono ?_); rintro e w122 ⟨rfl, hb⟩; refine ⟨_, rfl, ?_⟩; replace BK954 := kb gb954 hb; replace HB := bst hb; (try clear hb); obtain ⟨_, _, _, _, _, _⟩ := cells3 BK954.out))
    refine rct gb954 103 #[.int .i64 t1042, .int .i64 t1043, .string t1044] Tryd.underlying103 ?_
    exact ⟨qR, qB⟩
   rw [if_neg c119] at H
   have c119b0 := beq_eq_false_iff_ne.mpr c119
   have c119b1 := bne_iff_ne.mpr c119
   by_cases c124 : a2 = (-1)
   ·rw [if_pos c124] at H
    have c124b0 := beq_iff_eq.mpr c124
    have c124b1 := bne_eq_false_iff_eq.mpr c124
    clear c124
    replace H := Option.bind_eq_some_iff.mp H
    obtain ⟨⟨t1045, t1046, t1047, t1048⟩, A1250, H⟩ := H
    (try dsimp -simprocs only at H)
    have A125 := Aside0.mk A1250
    clear A1250
    simp only [Option.some.injEq, Prod.mk.injEq] at H
    obtain ⟨rfl, rfl, rfl, rfl⟩ := H
    go_wp2_with (first | ((with_reducible refine gc 146 rfl ?_); refine gl (some 126) #[.int .i64 (wrap64 (-a1)), .bool (a1 == (-9223372036854775808))] Tryd.func146 ?_; (with_reducible refine (val_over.calls (wrap64 (-a1)) (a1 == (-9223372036854775808)) t1045 t1046 t1047 t1048 _ A125.out).mono ?_); rintro e w126 ⟨rfl, hb⟩; refine ⟨_, rfl, ?_⟩; replace BK954 := kb gb954 hb; replace HB := bst hb; (try clear hb); obtain ⟨_, _, _, _, _, _⟩ := cells3 BK954.out))
    refine rct gb954 103 #[.int .i64 t1045, .int .i64 t1046, .string t1047] Tryd.underlying103 ?_
    exact ⟨qR, qB⟩
   rw [if_neg c124] at H
   have c124b0 := beq_eq_false_iff_ne.mpr c124
   have c124b1 := bne_iff_ne.mpr c124
   by_cases c128 : a2 = 0
   ·rw [if_pos c128] at H
    exact absurd H (by simp)
   rw [if_neg c128] at H
   have c128b0 := beq_eq_false_iff_ne.mpr c128
   have c128b1 := bne_iff_ne.mpr c128
   replace H := Option.bind_eq_some_iff.mp H
   obtain ⟨⟨t1049, t1050, t1051⟩, A1290, H⟩ := H
   (try dsimp -simprocs only at H)
   have A129 := Aside0.mk A1290
   clear A1290
   simp only [Option.some.injEq, Prod.mk.injEq] at H
   obtain ⟨rfl, rfl, rfl, rfl⟩ := H
   go_wp2_with (first | ((with_reducible refine gc 96 rfl ?_); refine gl (some 132) #[.int .i64 (wrap64 (Int.tdiv a1 a2))] Tryd.func96 ?_; (with_reducible refine (val_Of.calls (wrap64 (Int.tdiv a1 a2)) t1049 t1050 t1051 _ A129.out).mono ?_); rintro e w130 ⟨rfl, hb⟩; refine ⟨_, rfl, ?_⟩; replace BK954 := kb gb954 hb; replace HB := bst hb; (try clear hb); obtain ⟨_, _, _, _, _, _⟩ := cells3 BK954.out))
   refine rct gb954 103 #[.int .i64 t1049, .int .i64 t1050, .string t1051] Tryd.underlying103 ?_
   exact ⟨qR, qB⟩
end Go.Proofs.YtbngfhlciebeeaaDoor.L
