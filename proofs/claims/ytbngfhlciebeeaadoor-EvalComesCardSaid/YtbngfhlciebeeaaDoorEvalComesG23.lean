/- Printed and hand-written steps towards the row (EvalComes), those that it reaches. -/
import Derived.Test.YtbngfhlciebeeaaDoorEvalComesG3
import Derived.Test.YtbngfhlciebeeaaDoorEvalComesG4
import Derived.Test.YtbngfhlciebeeaaDoorEvalComesG21
import Derived.Test.YtbngfhlciebeeaaDoorEvalComesG22
import Derived.Test.YtbngfhlciebeeaaDoorEvalComesG18
section
namespace Go.Proofs.YtbngfhlciebeeaaDoor.L
open Go.RowKit Go.Proofs.YtbngfhlciebeeaaDoorW.PrintWords Go.Proofs.YtbngfhlciebeeaaDoorW.PrintLast Go.Proofs.YtbngfhlciebeeaaDoorW.PrintMore
attribute [local go_sem] max2_int min2_int max_two min_two max_three min_three max_four min_four   -- for this text's walks alone
set_option linter.unusedVariables false
set_option linter.unusedSimpArgs false
attribute [local go_sem high] eqA106
def whirligigref01_Reckon.j0 : Nat → Int → Int → Bool → Int → Int → ByteArray → Int → Int → ByteArray → Option (Int × Int × ByteArray × Int)
 | 0, _, _, _, _, _, _, _, _, _ => none
 | k + 1, x0, x8, x33, x1200000, x1200001, x1200002, x1201000, x1201001, x1201002 => if x33 = true then ((whirligigref01_divide.f k x1200001 x1201001 (x0 == 5)).bind fun bt1214 => (some (bt1214.1, bt1214.2.1, bt1214.2.2.1, bt1214.2.2.2))) else (if x8 = 7 then ((whirligigref01_less.f x1200001 x1201001).bind fun bt1218 => (some (bt1218.1, bt1218.2.1, bt1218.2.2.1, bt1218.2.2.2))) else (if x8 = 8 then ((whirligigref01_before.f k x1200000 x1200001 x1200002 x1201000 x1201001 x1201002).bind fun t1222 => ((whirligigref01_truth.f t1222).bind fun bt1223 => (some (bt1223.1, bt1223.2.1, bt1223.2.2.1, bt1223.2.2.2)))) else (if x8 = 9 then ((whirligigref01_before.f k x1201000 x1201001 x1201002 x1200000 x1200001 x1200002).bind fun t1227 => ((whirligigref01_truth.f (!t1227)).bind fun bt1228 => (some (bt1228.1, bt1228.2.1, bt1228.2.2.1, bt1228.2.2.2)))) else (if x8 = 10 then ((whirligigref01_before.f k x1201000 x1201001 x1201002 x1200000 x1200001 x1200002).bind fun t1232 => ((whirligigref01_truth.f t1232).bind fun bt1233 => (some (bt1233.1, bt1233.2.1, bt1233.2.2.1, bt1233.2.2.2)))) else (if x8 = 11 then ((whirligigref01_before.f k x1200000 x1200001 x1200002 x1201000 x1201001 x1201002).bind fun t1237 => ((whirligigref01_truth.f (!t1237)).bind fun bt1238 => (some (bt1238.1, bt1238.2.1, bt1238.2.2.1, bt1238.2.2.2)))) else (if x8 = 12 then ((whirligigref01_truth.f (x1200000 == x1201000 && (x1200001 == x1201001 && (x1200002.toList == x1201002.toList)))).bind fun bt1242 => (some (bt1242.1, bt1242.2.1, bt1242.2.2.1, bt1242.2.2.2))) else (if x8 = 13 then ((whirligigref01_truth.f (!(x1200000 == x1201000) || (!(x1200001 == x1201001) || (!(x1200002.toList == x1201002.toList))))).bind fun bt1246 => (some (bt1246.1, bt1246.2.1, bt1246.2.2.1, bt1246.2.2.2))) else (if x8 = 14 then (if x1200001 = 1 then ((whirligigref01_truth.f (x1201001 == 1)).bind fun bt1250 => (some (bt1250.1, bt1250.2.1, bt1250.2.2.1, bt1250.2.2.2))) else ((whirligigref01_truth.f false).bind fun bt1254 => (some (bt1254.1, bt1254.2.1, bt1254.2.2.1, bt1254.2.2.2)))) else (if x8 = 15 then (if x1200001 = 1 then ((whirligigref01_truth.f true).bind fun bt1258 => (some (bt1258.1, bt1258.2.1, bt1258.2.2.1, bt1258.2.2.2))) else ((whirligigref01_truth.f (x1201001 == 1)).bind fun bt1262 => (some (bt1262.1, bt1262.2.1, bt1262.2.2.1, bt1262.2.2.2)))) else (if x1200000 = 1 then ((whirligigref01_sum.f x1200001 x1201001).bind fun bt1266 => (some (bt1266.1, bt1266.2.1, bt1266.2.2.1, bt1266.2.2.2))) else (if (wrap64 ((x1200002.size : Int) + (x1201002.size : Int))) > 48 then (some (0, 0, (⟨#[]⟩ : ByteArray), 15)) else (if x1200002.size + x1201002.size ≤ 9223372036854775807 then (some (3, 0, x1200002 ++ x1201002, 0)) else (none)))))))))))))
def whirligigref01_Reckon.f (k : Nat) (a0 : Int) (a1_0 : Int) (a1_1 : Int) (a1_2 : ByteArray) (a2_0 : Int) (a2_1 : Int) (a2_2 : ByteArray) : Option (Int × Int × ByteArray × Int) := if a0 = 1 then ((whirligigref01_truth.f (a1_1 == 0)).bind fun bt1202 => (some (bt1202.1, bt1202.2.1, bt1202.2.2.1, bt1202.2.2.2))) else (if a0 = 2 then ((whirligigref01_less.f 0 a1_1).bind fun bt1206 => (some (bt1206.1, bt1206.2.1, bt1206.2.2.1, bt1206.2.2.2))) else (if a0 = 3 then ((whirligigref01_times.f k a1_1 a2_1).bind fun bt1210 => (some (bt1210.1, bt1210.2.1, bt1210.2.2.1, bt1210.2.2.2))) else (if a0 = 4 then (whirligigref01_Reckon.j0 k a0 a0 (a0 == 4) a1_0 a1_1 a1_2 a2_0 a2_1 a2_2) else (whirligigref01_Reckon.j0 k a0 a0 (a0 == 5) a1_0 a1_1 a1_2 a2_0 a2_1 a2_2))))
set_option maxHeartbeats 8000000 in
set_option maxRecDepth 100000 in
theorem whirligigref01_Reckon.calls (k : Nat) (a0 : Int) (a1_0 : Int) (a1_1 : Int) (a1_2 : ByteArray) (a2_0 : Int) (a2_1 : Int) (a2_2 : ByteArray) (r1 : Int) (r2 : Int) (r3 : ByteArray) (r4 : Int) (w : World) (h : whirligigref01_Reckon.f k a0 a1_0 a1_1 a1_2 a2_0 a2_1 a2_2 = some (r1, r2, r3, r4)) :
  Calls Tryd.prog 99 #[.int .i64 a0, .agg #[.int .i64 a1_0, .int .i64 a1_1, .string a1_2], .agg #[.int .i64 a2_0, .int .i64 a2_1, .string a2_2]] w fun e w' => e = .returned (.tuple #[.agg #[.int .i64 r1, .int .i64 r2, .string r3], .int .i64 r4]) ∧ Below w.heap.size w w' := by
 have hu106 := Tryd.underlying106
 have HB := Aside0.mk (Below.refl w.heap.size w)
 have H : (if a0 = 1 then ((whirligigref01_truth.f (a1_1 == 0)).bind fun bt1202 => (some (bt1202.1, bt1202.2.1, bt1202.2.2.1, bt1202.2.2.2))) else (if a0 = 2 then ((whirligigref01_less.f 0 a1_1).bind fun bt1206 => (some (bt1206.1, bt1206.2.1, bt1206.2.2.1, bt1206.2.2.2))) else (if a0 = 3 then ((whirligigref01_times.f k a1_1 a2_1).bind fun bt1210 => (some (bt1210.1, bt1210.2.1, bt1210.2.2.1, bt1210.2.2.2))) else (if a0 = 4 then (whirligigref01_Reckon.j0 k a0 a0 (a0 == 4) a1_0 a1_1 a1_2 a2_0 a2_1 a2_2) else (whirligigref01_Reckon.j0 k a0 a0 (a0 == 5) a1_0 a1_1 a1_2 a2_0 a2_1 a2_2))))) = some (r1, r2, r3, r4) := h
 clear h
 by_cases c4 : a0 = 1
 ·rw [if_pos c4] at H
  have c4b0 := beq_iff_eq.mpr c4
  have c4b1 := bne_eq_false_iff_eq.mpr c4
  clear c4
  replace H := Option.bind_eq_some_iff.mp H
  obtain ⟨⟨t1202, t1203, t1204, t1205⟩, A50, H⟩ := H
  (try dsimp -simprocs only at H)
  have A5 := Aside0.mk A50
  clear A50
  simp only [Option.some.injEq, Prod.mk.injEq] at H
  obtain ⟨rfl, rfl, rfl, rfl⟩ := H
  go_enter Tryd.func99, Tryd.ntmps99
  go_wp2_with (first | ((with_reducible refine gd 4 rfl ?_); refine bxx 4 #[.int .i64 a1_0, .int .i64 a1_1, .string a1_2] 106 ?_; intro gb1199 w6 BK1199 GW1199 HB) | ((with_reducible refine gd 5 rfl ?_); refine bx 5 #[.int .i64 a2_0, .int .i64 a2_1, .string a2_2] 106 ?_; intro gb1200 hg w7 hbox hb; have BK1200 := Aside0.mk (hbox); have GW1200 := geS hg; have GE1200 := geS hg; have NB1199_1200 := neS gb1199 hg; have NB1200_1199 := neT gb1199 hg; replace BK1199 := kb gb1199 hb; replace HB := bst hb; clear hb hbox hg) | ((with_reducible refine gd 6 rfl ?_); refine bx 6 #[.int .i64 0, .int .i64 0, .string (⟨#[]⟩ : ByteArray)] 106 ?_; intro gb1201 hg w8 hbox hb; have BK1201 := Aside0.mk (hbox); have GW1201 := geS hg; have GE1201 := geS hg; have NB1199_1201 := neS gb1199 hg; have NB1201_1199 := neT gb1199 hg; have NB1200_1201 := neS gb1200 hg; have NB1201_1200 := neT gb1200 hg; replace BK1199 := kb gb1199 hb; replace BK1200 := kb gb1200 hb; replace HB := bst hb; clear hb hbox hg; have := NB1199_1200.out; have := NB1200_1199.out; have := NB1199_1201.out; have := NB1201_1199.out; obtain ⟨_, _, _, _, _, _⟩ := cells3 BK1199.out) | ((with_reducible refine gc 126 rfl ?_); refine gl (some 14) #[.bool (a1_1 == 0)] Tryd.func126 ?_; (with_reducible refine (whirligigref01_truth.calls (a1_1 == 0) t1202 t1203 t1204 t1205 _ A5.out).mono ?_); rintro e w12 ⟨rfl, hb⟩; refine ⟨_, rfl, ?_⟩; replace BK1199 := kb gb1199 hb; replace BK1200 := kb gb1200 hb; replace BK1201 := kb gb1201 hb; replace HB := bst hb; (try clear hb); have := NB1201_1200.out; have := NB1200_1201.out; obtain ⟨_, _, _, _, _, _⟩ := cells3 BK1201.out))
  refine rct gb1201 106 #[.int .i64 t1202, .int .i64 t1203, .string t1204] Tryd.underlying106 ?_
  exact ⟨qR, qB⟩
 rw [if_neg c4] at H
 have c4b0 := beq_eq_false_iff_ne.mpr c4
 have c4b1 := bne_iff_ne.mpr c4
 by_cases c15 : a0 = 2
 ·rw [if_pos c15] at H
  have c15b0 := beq_iff_eq.mpr c15
  have c15b1 := bne_eq_false_iff_eq.mpr c15
  clear c15
  replace H := Option.bind_eq_some_iff.mp H
  obtain ⟨⟨t1206, t1207, t1208, t1209⟩, A160, H⟩ := H
  (try dsimp -simprocs only at H)
  have A16 := Aside0.mk A160
  clear A160
  simp only [Option.some.injEq, Prod.mk.injEq] at H
  obtain ⟨rfl, rfl, rfl, rfl⟩ := H
  go_enter Tryd.func99, Tryd.ntmps99
  go_wp2_with (first | ((with_reducible refine gd 4 rfl ?_); refine bxx 4 #[.int .i64 a1_0, .int .i64 a1_1, .string a1_2] 106 ?_; intro gb1199 w17 BK1199 GW1199 HB) | ((with_reducible refine gd 5 rfl ?_); refine bx 5 #[.int .i64 a2_0, .int .i64 a2_1, .string a2_2] 106 ?_; intro gb1200 hg w18 hbox hb; have BK1200 := Aside0.mk (hbox); have GW1200 := geS hg; have GE1200 := geS hg; have NB1199_1200 := neS gb1199 hg; have NB1200_1199 := neT gb1199 hg; replace BK1199 := kb gb1199 hb; replace HB := bst hb; clear hb hbox hg) | ((with_reducible refine gd 6 rfl ?_); refine bx 6 #[.int .i64 0, .int .i64 0, .string (⟨#[]⟩ : ByteArray)] 106 ?_; intro gb1201 hg w19 hbox hb; have BK1201 := Aside0.mk (hbox); have GW1201 := geS hg; have GE1201 := geS hg; have NB1199_1201 := neS gb1199 hg; have NB1201_1199 := neT gb1199 hg; have NB1200_1201 := neS gb1200 hg; have NB1201_1200 := neT gb1200 hg; replace BK1199 := kb gb1199 hb; replace BK1200 := kb gb1200 hb; replace HB := bst hb; clear hb hbox hg; have := NB1199_1200.out; have := NB1200_1199.out; have := NB1199_1201.out; have := NB1201_1199.out; obtain ⟨_, _, _, _, _, _⟩ := cells3 BK1199.out) | ((with_reducible refine gc 127 rfl ?_); refine gl (some 21) #[.int .i64 0, .int .i64 a1_1] Tryd.func127 ?_; (with_reducible refine (whirligigref01_less.calls 0 a1_1 t1206 t1207 t1208 t1209 _ A16.out).mono ?_); rintro e w23 ⟨rfl, hb⟩; refine ⟨_, rfl, ?_⟩; replace BK1199 := kb gb1199 hb; replace BK1200 := kb gb1200 hb; replace BK1201 := kb gb1201 hb; replace HB := bst hb; (try clear hb); have := NB1201_1200.out; have := NB1200_1201.out; obtain ⟨_, _, _, _, _, _⟩ := cells3 BK1201.out))
  refine rct gb1201 106 #[.int .i64 t1206, .int .i64 t1207, .string t1208] Tryd.underlying106 ?_
  exact ⟨qR, qB⟩
 rw [if_neg c15] at H
 have c15b0 := beq_eq_false_iff_ne.mpr c15
 have c15b1 := bne_iff_ne.mpr c15
 by_cases c26 : a0 = 3
 ·rw [if_pos c26] at H
  have c26b0 := beq_iff_eq.mpr c26
  have c26b1 := bne_eq_false_iff_eq.mpr c26
  clear c26
  replace H := Option.bind_eq_some_iff.mp H
  obtain ⟨⟨t1210, t1211, t1212, t1213⟩, A270, H⟩ := H
  (try dsimp -simprocs only at H)
  have A27 := Aside0.mk A270
  clear A270
  simp only [Option.some.injEq, Prod.mk.injEq] at H
  obtain ⟨rfl, rfl, rfl, rfl⟩ := H
  go_enter Tryd.func99, Tryd.ntmps99
  go_wp2_with (first | ((with_reducible refine gd 4 rfl ?_); refine bxx 4 #[.int .i64 a1_0, .int .i64 a1_1, .string a1_2] 106 ?_; intro gb1199 w28 BK1199 GW1199 HB) | ((with_reducible refine gd 5 rfl ?_); refine bx 5 #[.int .i64 a2_0, .int .i64 a2_1, .string a2_2] 106 ?_; intro gb1200 hg w29 hbox hb; have BK1200 := Aside0.mk (hbox); have GW1200 := geS hg; have GE1200 := geS hg; have NB1199_1200 := neS gb1199 hg; have NB1200_1199 := neT gb1199 hg; replace BK1199 := kb gb1199 hb; replace HB := bst hb; clear hb hbox hg) | ((with_reducible refine gd 6 rfl ?_); refine bx 6 #[.int .i64 0, .int .i64 0, .string (⟨#[]⟩ : ByteArray)] 106 ?_; intro gb1201 hg w30 hbox hb; have BK1201 := Aside0.mk (hbox); have GW1201 := geS hg; have GE1201 := geS hg; have NB1199_1201 := neS gb1199 hg; have NB1201_1199 := neT gb1199 hg; have NB1200_1201 := neS gb1200 hg; have NB1201_1200 := neT gb1200 hg; replace BK1199 := kb gb1199 hb; replace BK1200 := kb gb1200 hb; replace HB := bst hb; clear hb hbox hg; have := NB1199_1200.out; have := NB1200_1199.out; have := NB1199_1201.out; have := NB1201_1199.out; obtain ⟨_, _, _, _, _, _⟩ := cells3 BK1199.out; have := NB1200_1201.out; have := NB1201_1200.out; obtain ⟨_, _, _, _, _, _⟩ := cells3 BK1200.out) | ((with_reducible refine gc 128 rfl ?_); refine gl (some 30) #[.int .i64 a1_1, .int .i64 a2_1] Tryd.func128 ?_; (with_reducible refine (whirligigref01_times.calls k a1_1 a2_1 t1210 t1211 t1212 t1213 _ A27.out).mono ?_); rintro e w36 ⟨rfl, hb⟩; refine ⟨_, rfl, ?_⟩; replace BK1199 := kb gb1199 hb; replace BK1200 := kb gb1200 hb; replace BK1201 := kb gb1201 hb; replace HB := bst hb; (try clear hb); obtain ⟨_, _, _, _, _, _⟩ := cells3 BK1201.out))
  refine rct gb1201 106 #[.int .i64 t1210, .int .i64 t1211, .string t1212] Tryd.underlying106 ?_
  exact ⟨qR, qB⟩
 rw [if_neg c26] at H
 have c26b0 := beq_eq_false_iff_ne.mpr c26
 have c26b1 := bne_iff_ne.mpr c26
 have HC38 := Aside0.mk H
 clear H
 go_enter Tryd.func99, Tryd.ntmps99
 go_upto_if 33 with (first | ((with_reducible refine gd 4 rfl ?_); refine bxx 4 #[.int .i64 a1_0, .int .i64 a1_1, .string a1_2] 106 ?_; intro gb1199 w39 BK1199 GW1199 HB) | ((with_reducible refine gd 5 rfl ?_); refine bx 5 #[.int .i64 a2_0, .int .i64 a2_1, .string a2_2] 106 ?_; intro gb1200 hg w40 hbox hb; have BK1200 := Aside0.mk (hbox); have GW1200 := geS hg; have GE1200 := geS hg; have NB1199_1200 := neS gb1199 hg; have NB1200_1199 := neT gb1199 hg; replace BK1199 := kb gb1199 hb; replace HB := bst hb; clear hb hbox hg) | ((with_reducible refine gd 6 rfl ?_); refine bx 6 #[.int .i64 0, .int .i64 0, .string (⟨#[]⟩ : ByteArray)] 106 ?_; intro gb1201 hg w41 hbox hb; have BK1201 := Aside0.mk (hbox); have GW1201 := geS hg; have GE1201 := geS hg; have NB1199_1201 := neS gb1199 hg; have NB1201_1199 := neT gb1199 hg; have NB1200_1201 := neS gb1200 hg; have NB1201_1200 := neT gb1200 hg; replace BK1199 := kb gb1199 hb; replace BK1200 := kb gb1200 hb; replace HB := bst hb; clear hb hbox hg))
 (try simp only [Act.put, List.setIfInBounds_toArray, List.set_cons_zero, List.set_cons_succ])
 go_cut [33] (fun v33 wc => ∃ (kq : Nat) (x33_37 : Bool), v33 = .bool x33_37 ∧ Aside0 (whirligigref01_Reckon.j0 kq a0 a0 x33_37 a1_0 a1_1 a1_2 a2_0 a2_1 a2_2 = some (r1, r2, r3, r4)) ∧ Aside0 (kq ≤ k) ∧ Aside0 (wc.heap[gb1199]? = some (.cells #[.int .i64 a1_0, .int .i64 a1_1, .string a1_2] 106 (0, 0))) ∧ Aside0 (wc.heap[gb1200]? = some (.cells #[.int .i64 a2_0, .int .i64 a2_1, .string a2_2] 106 (0, 0))) ∧ Aside0 (wc.heap[gb1201]? = some (.cells #[.int .i64 0, .int .i64 0, .string (⟨#[]⟩ : ByteArray)] 106 (0, 0))) ∧ Aside0 (Below w.heap.size w wc))
 case first =>
  have H := HC38.out
  clear HC38
  by_cases c42 : a0 = 4
  ·rw [if_pos c42] at H
   have c42b0 := beq_iff_eq.mpr c42
   have c42b1 := bne_eq_false_iff_eq.mpr c42
   clear c42
   (first | rw [c42b0] | (simp only [i64_w, i32_w]; rw [c42b0]) | skip)
   have H' := Aside0.mk H
   clear H
   go_wp2
   go_meet
   case rel => exact ⟨_, ((a0 == 4)), qE, H', ⟨by first | omega | exact Nat.le_refl _⟩, ⟨qK⟩, ⟨qK⟩, ⟨qK⟩, ⟨qB⟩⟩
  rw [if_neg c42] at H
  have c42b0 := beq_eq_false_iff_ne.mpr c42
  have c42b1 := bne_iff_ne.mpr c42
  (first | rw [c42b0] | (simp only [i64_w, i32_w]; rw [c42b0]) | skip)
  have H' := Aside0.mk H
  clear H
  go_wp2
  go_meet
  case rel => exact ⟨_, ((a0 == 5)), qE, H', ⟨by first | omega | exact Nat.le_refl _⟩, ⟨qK⟩, ⟨qK⟩, ⟨qK⟩, ⟨qB⟩⟩
 case rest =>
  clear HC38
  try clear p2
  obtain ⟨kq, x33_37, rfl, HA, HJ37, BK1199, BK1200, BK1201, HB⟩ := hcut
  cases kq with
  | zero => exact absurd HA.out (by simp [whirligigref01_Reckon.j0])
  | succ kj37 =>
   have H := HA.out
   clear HA
   simp only [whirligigref01_Reckon.j0] at H
   by_cases c43 : x33_37 = true
   ·subst c43
    rw [if_pos rfl] at H
    replace H := Option.bind_eq_some_iff.mp H
    obtain ⟨⟨t1214, t1215, t1216, t1217⟩, A440, H⟩ := H
    (try dsimp -simprocs only at H)
    have A44 := Aside0.mk A440
    clear A440
    simp only [Option.some.injEq, Prod.mk.injEq] at H
    obtain ⟨rfl, rfl, rfl, rfl⟩ := H
    have := NB1199_1200.out
    have := NB1200_1199.out
    have := NB1199_1201.out
    have := NB1201_1199.out
    obtain ⟨_, _, _, _, _, _⟩ := cells3 BK1199.out
    have := NB1200_1201.out
    have := NB1201_1200.out
    obtain ⟨_, _, _, _, _, _⟩ := cells3 BK1200.out
    go_wp2_with (first | ((with_reducible refine gc 129 rfl ?_); refine gl (some 42) #[.int .i64 a1_1, .int .i64 a2_1, .bool (a0 == 5)] Tryd.func129 ?_; (with_reducible refine (whirligigref01_divide.calls kj37 a1_1 a2_1 (a0 == 5) t1214 t1215 t1216 t1217 _ A44.out).mono ?_); rintro e w50 ⟨rfl, hb⟩; refine ⟨_, rfl, ?_⟩; replace BK1199 := kb gb1199 hb; replace BK1200 := kb gb1200 hb; replace BK1201 := kb gb1201 hb; replace HB := bst hb; (try clear hb); obtain ⟨_, _, _, _, _, _⟩ := cells3 BK1201.out))
    refine rct gb1201 106 #[.int .i64 t1214, .int .i64 t1215, .string t1216] Tryd.underlying106 ?_
    exact ⟨qR, qB⟩
   replace c43 := Bool.eq_false_iff.mpr c43
   subst c43
   rw [if_neg (show ¬ (false = true) by decide)] at H
   by_cases c52 : a0 = 7
   ·rw [if_pos c52] at H
    have c52b0 := beq_iff_eq.mpr c52
    have c52b1 := bne_eq_false_iff_eq.mpr c52
    clear c52
    replace H := Option.bind_eq_some_iff.mp H
    obtain ⟨⟨t1218, t1219, t1220, t1221⟩, A530, H⟩ := H
    (try dsimp -simprocs only at H)
    have A53 := Aside0.mk A530
    clear A530
    simp only [Option.some.injEq, Prod.mk.injEq] at H
    obtain ⟨rfl, rfl, rfl, rfl⟩ := H
    have := NB1199_1200.out
    have := NB1200_1199.out
    have := NB1199_1201.out
    have := NB1201_1199.out
    obtain ⟨_, _, _, _, _, _⟩ := cells3 BK1199.out
    have := NB1200_1201.out
    have := NB1201_1200.out
    obtain ⟨_, _, _, _, _, _⟩ := cells3 BK1200.out
    go_wp2_with (first | ((with_reducible refine gc 127 rfl ?_); refine gl (some 51) #[.int .i64 a1_1, .int .i64 a2_1] Tryd.func127 ?_; (with_reducible refine (whirligigref01_less.calls a1_1 a2_1 t1218 t1219 t1220 t1221 _ A53.out).mono ?_); rintro e w59 ⟨rfl, hb⟩; refine ⟨_, rfl, ?_⟩; replace BK1199 := kb gb1199 hb; replace BK1200 := kb gb1200 hb; replace BK1201 := kb gb1201 hb; replace HB := bst hb; (try clear hb); obtain ⟨_, _, _, _, _, _⟩ := cells3 BK1201.out))
    refine rct gb1201 106 #[.int .i64 t1218, .int .i64 t1219, .string t1220] Tryd.underlying106 ?_
    exact ⟨qR, qB⟩
   rw [if_neg c52] at H
   have c52b0 := beq_eq_false_iff_ne.mpr c52
   have c52b1 := bne_iff_ne.mpr c52
   by_cases c61 : a0 = 8
   ·rw [if_pos c61] at H
    have c61b0 := beq_iff_eq.mpr c61
    have c61b1 := bne_eq_false_iff_eq.mpr c61
    clear c61
    replace H := Option.bind_eq_some_iff.mp H
    obtain ⟨t1222, A620, H⟩ := H
    (try dsimp -simprocs only at H)
    have A62 := Aside0.mk A620
    clear A620
    replace H := Option.bind_eq_some_iff.mp H
    obtain ⟨⟨t1223, t1224, t1225, t1226⟩, A630, H⟩ := H
    (try dsimp -simprocs only at H)
    have A63 := Aside0.mk A630
    clear A630
    simp only [Option.some.injEq, Prod.mk.injEq] at H
    obtain ⟨rfl, rfl, rfl, rfl⟩ := H
    have := NB1199_1200.out
    have := NB1200_1199.out
    have := NB1199_1201.out
    have := NB1201_1199.out
    obtain ⟨_, _, _, _, _, _⟩ := cells3 BK1199.out
    have := NB1200_1201.out
    have := NB1201_1200.out
    obtain ⟨_, _, _, _, _, _⟩ := cells3 BK1200.out
    go_wp2_with (first | ((with_reducible refine gc 130 rfl ?_); refine gl (some 58) #[.agg #[.int .i64 a1_0, .int .i64 a1_1, .string a1_2], .agg #[.int .i64 a2_0, .int .i64 a2_1, .string a2_2]] Tryd.func130 ?_; (with_reducible refine (whirligigref01_before.calls kj37 a1_0 a1_1 a1_2 a2_0 a2_1 a2_2 t1222 _ A62.out).mono ?_); rintro e w69 ⟨rfl, hb⟩; refine ⟨_, rfl, ?_⟩; replace BK1199 := kb gb1199 hb; replace BK1200 := kb gb1200 hb; replace BK1201 := kb gb1201 hb; replace HB := bst hb; (try clear hb)) | ((with_reducible refine gc 126 rfl ?_); refine gl (some 59) #[.bool t1222] Tryd.func126 ?_; (with_reducible refine (whirligigref01_truth.calls t1222 t1223 t1224 t1225 t1226 _ A63.out).mono ?_); rintro e w70 ⟨rfl, hb⟩; refine ⟨_, rfl, ?_⟩; replace BK1199 := kb gb1199 hb; replace BK1200 := kb gb1200 hb; replace BK1201 := kb gb1201 hb; replace HB := bst hb; (try clear hb); obtain ⟨_, _, _, _, _, _⟩ := cells3 BK1201.out))
    refine rct gb1201 106 #[.int .i64 t1223, .int .i64 t1224, .string t1225] Tryd.underlying106 ?_
    exact ⟨qR, qB⟩
   rw [if_neg c61] at H
   have c61b0 := beq_eq_false_iff_ne.mpr c61
   have c61b1 := bne_iff_ne.mpr c61
   by_cases c72 : a0 = 9
   ·rw [if_pos c72] at H
    have c72b0 := beq_iff_eq.mpr c72
    have c72b1 := bne_eq_false_iff_eq.mpr c72
    clear c72
    replace H := Option.bind_eq_some_iff.mp H
    obtain ⟨t1227, A730, H⟩ := H
    (try dsimp -simprocs only at H)
    have A73 := Aside0.mk A730
    clear A730
    replace H := Option.bind_eq_some_iff.mp H
    obtain ⟨⟨t1228, t1229, t1230, t1231⟩, A740, H⟩ := H
    (try dsimp -simprocs only at H)
    have A74 := Aside0.mk A740
    clear A740
    simp only [Option.some.injEq, Prod.mk.injEq] at H
    obtain ⟨rfl, rfl, rfl, rfl⟩ := H
    have := NB1200_1199.out
    have := NB1199_1200.out
    have := NB1200_1201.out
    have := NB1201_1200.out
    obtain ⟨_, _, _, _, _, _⟩ := cells3 BK1200.out
    have := NB1199_1201.out
    have := NB1201_1199.out
    obtain ⟨_, _, _, _, _, _⟩ := cells3 BK1199.out
    go_wp2_with (first | ((with_reducible refine gc 130 rfl ?_); refine gl (some 66) #[.agg #[.int .i64 a2_0, .int .i64 a2_1, .string a2_2], .agg #[.int .i64 a1_0, .int .i64 a1_1, .string a1_2]] Tryd.func130 ?_; (with_reducible refine (whirligigref01_before.calls kj37 a2_0 a2_1 a2_2 a1_0 a1_1 a1_2 t1227 _ A73.out).mono ?_); rintro e w80 ⟨rfl, hb⟩; refine ⟨_, rfl, ?_⟩; replace BK1199 := kb gb1199 hb; replace BK1200 := kb gb1200 hb; replace BK1201 := kb gb1201 hb; replace HB := bst hb; (try clear hb)) | ((with_reducible refine gc 126 rfl ?_); refine gl (some 68) #[.bool (!t1227)] Tryd.func126 ?_; (with_reducible refine (whirligigref01_truth.calls (!t1227) t1228 t1229 t1230 t1231 _ A74.out).mono ?_); rintro e w81 ⟨rfl, hb⟩; refine ⟨_, rfl, ?_⟩; replace BK1199 := kb gb1199 hb; replace BK1200 := kb gb1200 hb; replace BK1201 := kb gb1201 hb; replace HB := bst hb; (try clear hb); obtain ⟨_, _, _, _, _, _⟩ := cells3 BK1201.out))
    refine rct gb1201 106 #[.int .i64 t1228, .int .i64 t1229, .string t1230] Tryd.underlying106 ?_
    exact ⟨qR, qB⟩
   rw [if_neg c72] at H
   have c72b0 := beq_eq_false_iff_ne.mpr c72
   have c72b1 := bne_iff_ne.mpr c72
   by_cases c83 : a0 = 10
   ·rw [if_pos c83] at H
    have c83b0 := beq_iff_eq.mpr c83
    have c83b1 := bne_eq_false_iff_eq.mpr c83
    clear c83
    replace H := Option.bind_eq_some_iff.mp H
    obtain ⟨t1232, A840, H⟩ := H
    (try dsimp -simprocs only at H)
    have A84 := Aside0.mk A840
    clear A840
    try (obtain rfl : t1232 = _ := Option.some.inj (A84.out.symm.trans A73.out))
    replace H := Option.bind_eq_some_iff.mp H
    obtain ⟨⟨t1233, t1234, t1235, t1236⟩, A850, H⟩ := H
    (try dsimp -simprocs only at H)
    have A85 := Aside0.mk A850
    clear A850
    simp only [Option.some.injEq, Prod.mk.injEq] at H
    obtain ⟨rfl, rfl, rfl, rfl⟩ := H
    have := NB1200_1199.out
    have := NB1199_1200.out
    have := NB1200_1201.out
    have := NB1201_1200.out
    obtain ⟨_, _, _, _, _, _⟩ := cells3 BK1200.out
    have := NB1199_1201.out
    have := NB1201_1199.out
    obtain ⟨_, _, _, _, _, _⟩ := cells3 BK1199.out
    go_wp2_with (first | ((with_reducible refine gc 130 rfl ?_); refine gl (some 75) #[.agg #[.int .i64 a2_0, .int .i64 a2_1, .string a2_2], .agg #[.int .i64 a1_0, .int .i64 a1_1, .string a1_2]] Tryd.func130 ?_; (with_reducible refine (whirligigref01_before.calls kj37 a2_0 a2_1 a2_2 a1_0 a1_1 a1_2 t1232 _ A84.out).mono ?_); rintro e w91 ⟨rfl, hb⟩; refine ⟨_, rfl, ?_⟩; replace BK1199 := kb gb1199 hb; replace BK1200 := kb gb1200 hb; replace BK1201 := kb gb1201 hb; replace HB := bst hb; (try clear hb)) | ((with_reducible refine gc 126 rfl ?_); refine gl (some 76) #[.bool t1232] Tryd.func126 ?_; (with_reducible refine (whirligigref01_truth.calls t1232 t1233 t1234 t1235 t1236 _ A85.out).mono ?_); rintro e w92 ⟨rfl, hb⟩; refine ⟨_, rfl, ?_⟩; replace BK1199 := kb gb1199 hb; replace BK1200 := kb gb1200 hb; replace BK1201 := kb gb1201 hb; replace HB := bst hb; (try clear hb); obtain ⟨_, _, _, _, _, _⟩ := cells3 BK1201.out))
    refine rct gb1201 106 #[.int .i64 t1233, .int .i64 t1234, .string t1235] Tryd.underlying106 ?_
    exact ⟨qR, qB⟩
   rw [if_neg c83] at H
   have c83b0 := beq_eq_false_iff_ne.mpr c83
   have c83b1 := bne_iff_ne.mpr c83
   by_cases c94 : a0 = 11
   ·rw [if_pos c94] at H
    have c94b0 := beq_iff_eq.mpr c94
    have c94b1 := bne_eq_false_iff_eq.mpr c94
    clear c94
    replace H := Option.bind_eq_some_iff.mp H
    obtain ⟨t1237, A950, H⟩ := H
    (try dsimp -simprocs only at H)
    have A95 := Aside0.mk A950
    clear A950
    try (obtain rfl : t1237 = _ := Option.some.inj (A95.out.symm.trans A62.out))
    replace H := Option.bind_eq_some_iff.mp H
    obtain ⟨⟨t1238, t1239, t1240, t1241⟩, A960, H⟩ := H
    (try dsimp -simprocs only at H)
    have A96 := Aside0.mk A960
    clear A960
    simp only [Option.some.injEq, Prod.mk.injEq] at H
    obtain ⟨rfl, rfl, rfl, rfl⟩ := H
    have := NB1199_1200.out
    have := NB1200_1199.out
    have := NB1199_1201.out
    have := NB1201_1199.out
    obtain ⟨_, _, _, _, _, _⟩ := cells3 BK1199.out
    have := NB1200_1201.out
    have := NB1201_1200.out
    obtain ⟨_, _, _, _, _, _⟩ := cells3 BK1200.out
    go_wp2_with (first | ((with_reducible refine gc 130 rfl ?_); refine gl (some 83) #[.agg #[.int .i64 a1_0, .int .i64 a1_1, .string a1_2], .agg #[.int .i64 a2_0, .int .i64 a2_1, .string a2_2]] Tryd.func130 ?_; (with_reducible refine (whirligigref01_before.calls kj37 a1_0 a1_1 a1_2 a2_0 a2_1 a2_2 t1237 _ A95.out).mono ?_); rintro e w102 ⟨rfl, hb⟩; refine ⟨_, rfl, ?_⟩; replace BK1199 := kb gb1199 hb; replace BK1200 := kb gb1200 hb; replace BK1201 := kb gb1201 hb; replace HB := bst hb; (try clear hb)) | ((with_reducible refine gc 126 rfl ?_); refine gl (some 85) #[.bool (!t1237)] Tryd.func126 ?_; (with_reducible refine (whirligigref01_truth.calls (!t1237) t1238 t1239 t1240 t1241 _ A96.out).mono ?_); rintro e w103 ⟨rfl, hb⟩; refine ⟨_, rfl, ?_⟩; replace BK1199 := kb gb1199 hb; replace BK1200 := kb gb1200 hb; replace BK1201 := kb gb1201 hb; replace HB := bst hb; (try clear hb); obtain ⟨_, _, _, _, _, _⟩ := cells3 BK1201.out))
    refine rct gb1201 106 #[.int .i64 t1238, .int .i64 t1239, .string t1240] Tryd.underlying106 ?_
    exact ⟨qR, qB⟩
   rw [if_neg c94] at H
   have c94b0 := beq_eq_false_iff_ne.mpr c94
   have c94b1 := bne_iff_ne.mpr c94
   by_cases c105 : a0 = 12
   ·rw [if_pos c105] at H
    have c105b0 := beq_iff_eq.mpr c105
    have c105b1 := bne_eq_false_iff_eq.mpr c105
    clear c105
    replace H := Option.bind_eq_some_iff.mp H
    obtain ⟨⟨t1242, t1243, t1244, t1245⟩, A1060, H⟩ := H
    (try dsimp -simprocs only at H)
    have A106 := Aside0.mk A1060
    clear A1060
    simp only [Option.some.injEq, Prod.mk.injEq] at H
    obtain ⟨rfl, rfl, rfl, rfl⟩ := H
    have := NB1199_1200.out
    have := NB1200_1199.out
    have := NB1199_1201.out
    have := NB1201_1199.out
    obtain ⟨_, _, _, _, _, _⟩ := cells3 BK1199.out
    have := NB1200_1201.out
    have := NB1201_1200.out
    obtain ⟨_, _, _, _, _, _⟩ := cells3 BK1200.out
    go_wp2_with (first | ((with_reducible refine gc 126 rfl ?_); refine gl (some 93) #[.bool (a1_0 == a2_0 && (a1_1 == a2_1 && (a1_2.toList == a2_2.toList)))] Tryd.func126 ?_; (with_reducible refine (whirligigref01_truth.calls (a1_0 == a2_0 && (a1_1 == a2_1 && (a1_2.toList == a2_2.toList))) t1242 t1243 t1244 t1245 _ A106.out).mono ?_); rintro e w112 ⟨rfl, hb⟩; refine ⟨_, rfl, ?_⟩; replace BK1199 := kb gb1199 hb; replace BK1200 := kb gb1200 hb; replace BK1201 := kb gb1201 hb; replace HB := bst hb; (try clear hb); obtain ⟨_, _, _, _, _, _⟩ := cells3 BK1201.out))
    refine rct gb1201 106 #[.int .i64 t1242, .int .i64 t1243, .string t1244] Tryd.underlying106 ?_
    exact ⟨qR, qB⟩
   rw [if_neg c105] at H
   have c105b0 := beq_eq_false_iff_ne.mpr c105
   have c105b1 := bne_iff_ne.mpr c105
   by_cases c114 : a0 = 13
   ·rw [if_pos c114] at H
    have c114b0 := beq_iff_eq.mpr c114
    have c114b1 := bne_eq_false_iff_eq.mpr c114
    clear c114
    replace H := Option.bind_eq_some_iff.mp H
    obtain ⟨⟨t1246, t1247, t1248, t1249⟩, A1150, H⟩ := H
    (try dsimp -simprocs only at H)
    have A115 := Aside0.mk A1150
    clear A1150
    simp only [Option.some.injEq, Prod.mk.injEq] at H
    obtain ⟨rfl, rfl, rfl, rfl⟩ := H
    have := NB1199_1200.out
    have := NB1200_1199.out
    have := NB1199_1201.out
    have := NB1201_1199.out
    obtain ⟨_, _, _, _, _, _⟩ := cells3 BK1199.out
    have := NB1200_1201.out
    have := NB1201_1200.out
    obtain ⟨_, _, _, _, _, _⟩ := cells3 BK1200.out
    go_wp2_with (first | ((with_reducible refine gc 126 rfl ?_); refine gl (some 101) #[.bool (!(a1_0 == a2_0) || (!(a1_1 == a2_1) || (!(a1_2.toList == a2_2.toList))))] Tryd.func126 ?_; (with_reducible refine (whirligigref01_truth.calls (!(a1_0 == a2_0) || (!(a1_1 == a2_1) || (!(a1_2.toList == a2_2.toList)))) t1246 t1247 t1248 t1249 _ A115.out).mono ?_); rintro e w121 ⟨rfl, hb⟩; refine ⟨_, rfl, ?_⟩; replace BK1199 := kb gb1199 hb; replace BK1200 := kb gb1200 hb; replace BK1201 := kb gb1201 hb; replace HB := bst hb; (try clear hb); obtain ⟨_, _, _, _, _, _⟩ := cells3 BK1201.out))
    refine rct gb1201 106 #[.int .i64 t1246, .int .i64 t1247, .string t1248] Tryd.underlying106 ?_
    exact ⟨qR, qB⟩
   rw [if_neg c114] at H
   have c114b0 := beq_eq_false_iff_ne.mpr c114
   have c114b1 := bne_iff_ne.mpr c114
   by_cases c123 : a0 = 14
   ·rw [if_pos c123] at H
    have c123b0 := beq_iff_eq.mpr c123
    have c123b1 := bne_eq_false_iff_eq.mpr c123
    clear c123
    by_cases c124 : a1_1 = 1
    ·rw [if_pos c124] at H; have c124b0 := beq_iff_eq.mpr c124; have c124b1 := bne_eq_false_iff_eq.mpr c124; clear c124; replace H := Option.bind_eq_some_iff.mp H; obtain ⟨⟨t1250, t1251, t1252, t1253⟩, A1250, H⟩ := H; (try dsimp -simprocs only at H); have A125 := Aside0.mk A1250; clear A1250; simp only [Option.some.injEq, Prod.mk.injEq] at H; obtain ⟨rfl, rfl, rfl, rfl⟩ := H; have := NB1199_1200.out; have := NB1200_1199.out; have := NB1199_1201.out; have := NB1201_1199.out; obtain ⟨_, _, _, _, _, _⟩ := cells3 BK1199.out; have := NB1200_1201.out; have := NB1201_1200.out; obtain ⟨_, _, _, _, _, _⟩ := cells3 BK1200.out
     go_wp2_with (first | ((with_reducible refine gc 126 rfl ?_); refine gl (some 114) #[.bool (a2_1 == 1)] Tryd.func126 ?_; (with_reducible refine (whirligigref01_truth.calls (a2_1 == 1) t1250 t1251 t1252 t1253 _ A125.out).mono ?_); rintro e w131 ⟨rfl, hb⟩; refine ⟨_, rfl, ?_⟩; replace BK1199 := kb gb1199 hb; replace BK1200 := kb gb1200 hb; replace BK1201 := kb gb1201 hb; replace HB := bst hb; (try clear hb); obtain ⟨_, _, _, _, _, _⟩ := cells3 BK1201.out))
     refine rct gb1201 106 #[.int .i64 t1250, .int .i64 t1251, .string t1252] Tryd.underlying106 ?_; exact ⟨qR, qB⟩
    rw [if_neg c124] at H
    have c124b0 := beq_eq_false_iff_ne.mpr c124
    have c124b1 := bne_iff_ne.mpr c124
    replace H := Option.bind_eq_some_iff.mp H
    obtain ⟨⟨t1254, t1255, t1256, t1257⟩, A1330, H⟩ := H
    (try dsimp -simprocs only at H)
    have A133 := Aside0.mk A1330
    clear A1330
    simp only [Option.some.injEq, Prod.mk.injEq] at H
    obtain ⟨rfl, rfl, rfl, rfl⟩ := H
    have := NB1199_1200.out
    have := NB1200_1199.out
    have := NB1199_1201.out
    have := NB1201_1199.out
    obtain ⟨_, _, _, _, _, _⟩ := cells3 BK1199.out
    go_wp2_with (first | ((with_reducible refine gc 126 rfl ?_); refine gl (some 114) #[.bool false] Tryd.func126 ?_; (with_reducible refine (whirligigref01_truth.calls false t1254 t1255 t1256 t1257 _ A133.out).mono ?_); rintro e w137 ⟨rfl, hb⟩; refine ⟨_, rfl, ?_⟩; replace BK1199 := kb gb1199 hb; replace BK1200 := kb gb1200 hb; replace BK1201 := kb gb1201 hb; replace HB := bst hb; (try clear hb); have := NB1201_1200.out; have := NB1200_1201.out; obtain ⟨_, _, _, _, _, _⟩ := cells3 BK1201.out))
    refine rct gb1201 106 #[.int .i64 t1254, .int .i64 t1255, .string t1256] Tryd.underlying106 ?_
    exact ⟨qR, qB⟩
   rw [if_neg c123] at H
   have c123b0 := beq_eq_false_iff_ne.mpr c123
   have c123b1 := bne_iff_ne.mpr c123
   by_cases c140 : a0 = 15
   ·rw [if_pos c140] at H
    have c140b0 := beq_iff_eq.mpr c140
    have c140b1 := bne_eq_false_iff_eq.mpr c140
    clear c140
    by_cases c141 : a1_1 = 1
    ·rw [if_pos c141] at H; have c141b0 := beq_iff_eq.mpr c141; have c141b1 := bne_eq_false_iff_eq.mpr c141; clear c141; replace H := Option.bind_eq_some_iff.mp H; obtain ⟨⟨t1258, t1259, t1260, t1261⟩, A1420, H⟩ := H; (try dsimp -simprocs only at H); have A142 := Aside0.mk A1420; clear A1420; simp only [Option.some.injEq, Prod.mk.injEq] at H; obtain ⟨rfl, rfl, rfl, rfl⟩ := H; have := NB1199_1200.out; have := NB1200_1199.out; have := NB1199_1201.out; have := NB1201_1199.out; obtain ⟨_, _, _, _, _, _⟩ := cells3 BK1199.out
     go_wp2_with (first | ((with_reducible refine gc 126 rfl ?_); refine gl (some 127) #[.bool true] Tryd.func126 ?_; (with_reducible refine (whirligigref01_truth.calls true t1258 t1259 t1260 t1261 _ A142.out).mono ?_); rintro e w146 ⟨rfl, hb⟩; refine ⟨_, rfl, ?_⟩; replace BK1199 := kb gb1199 hb; replace BK1200 := kb gb1200 hb; replace BK1201 := kb gb1201 hb; replace HB := bst hb; (try clear hb); have := NB1201_1200.out; have := NB1200_1201.out; obtain ⟨_, _, _, _, _, _⟩ := cells3 BK1201.out))
     refine rct gb1201 106 #[.int .i64 t1258, .int .i64 t1259, .string t1260] Tryd.underlying106 ?_; exact ⟨qR, qB⟩
    rw [if_neg c141] at H
    have c141b0 := beq_eq_false_iff_ne.mpr c141
    have c141b1 := bne_iff_ne.mpr c141
    replace H := Option.bind_eq_some_iff.mp H
    obtain ⟨⟨t1262, t1263, t1264, t1265⟩, A1490, H⟩ := H
    (try dsimp -simprocs only at H)
    have A149 := Aside0.mk A1490
    clear A1490
    simp only [Option.some.injEq, Prod.mk.injEq] at H
    obtain ⟨rfl, rfl, rfl, rfl⟩ := H
    have := NB1199_1200.out
    have := NB1200_1199.out
    have := NB1199_1201.out
    have := NB1201_1199.out
    obtain ⟨_, _, _, _, _, _⟩ := cells3 BK1199.out
    have := NB1200_1201.out
    have := NB1201_1200.out
    obtain ⟨_, _, _, _, _, _⟩ := cells3 BK1200.out
    go_wp2_with (first | ((with_reducible refine gc 126 rfl ?_); refine gl (some 127) #[.bool (a2_1 == 1)] Tryd.func126 ?_; (with_reducible refine (whirligigref01_truth.calls (a2_1 == 1) t1262 t1263 t1264 t1265 _ A149.out).mono ?_); rintro e w155 ⟨rfl, hb⟩; refine ⟨_, rfl, ?_⟩; replace BK1199 := kb gb1199 hb; replace BK1200 := kb gb1200 hb; replace BK1201 := kb gb1201 hb; replace HB := bst hb; (try clear hb); obtain ⟨_, _, _, _, _, _⟩ := cells3 BK1201.out))
    refine rct gb1201 106 #[.int .i64 t1262, .int .i64 t1263, .string t1264] Tryd.underlying106 ?_
    exact ⟨qR, qB⟩
   rw [if_neg c140] at H
   have c140b0 := beq_eq_false_iff_ne.mpr c140
   have c140b1 := bne_iff_ne.mpr c140
   by_cases c157 : a1_0 = 1
   ·rw [if_pos c157] at H
    have c157b0 := beq_iff_eq.mpr c157
    have c157b1 := bne_eq_false_iff_eq.mpr c157
    clear c157
    replace H := Option.bind_eq_some_iff.mp H
    obtain ⟨⟨t1266, t1267, t1268, t1269⟩, A1580, H⟩ := H
    (try dsimp -simprocs only at H)
    have A158 := Aside0.mk A1580
    clear A1580
    simp only [Option.some.injEq, Prod.mk.injEq] at H
    obtain ⟨rfl, rfl, rfl, rfl⟩ := H
    have := NB1199_1200.out
    have := NB1200_1199.out
    have := NB1199_1201.out
    have := NB1201_1199.out
    obtain ⟨_, _, _, _, _, _⟩ := cells3 BK1199.out
    have := NB1200_1201.out
    have := NB1201_1200.out
    obtain ⟨_, _, _, _, _, _⟩ := cells3 BK1200.out
    go_wp2_with (first | ((with_reducible refine gc 131 rfl ?_); refine gl (some 137) #[.int .i64 a1_1, .int .i64 a2_1] Tryd.func131 ?_; (with_reducible refine (whirligigref01_sum.calls a1_1 a2_1 t1266 t1267 t1268 t1269 _ A158.out).mono ?_); rintro e w164 ⟨rfl, hb⟩; refine ⟨_, rfl, ?_⟩; replace BK1199 := kb gb1199 hb; replace BK1200 := kb gb1200 hb; replace BK1201 := kb gb1201 hb; replace HB := bst hb; (try clear hb); obtain ⟨_, _, _, _, _, _⟩ := cells3 BK1201.out))
    refine rct gb1201 106 #[.int .i64 t1266, .int .i64 t1267, .string t1268] Tryd.underlying106 ?_
    exact ⟨qR, qB⟩
   rw [if_neg c157] at H
   have c157b0 := beq_eq_false_iff_ne.mpr c157
   have c157b1 := bne_iff_ne.mpr c157
   replace H := iD H
   rcases H with ⟨c166b0, H⟩ | ⟨c166b0, H⟩
   ·simp only [Option.some.injEq, Prod.mk.injEq] at H
    obtain ⟨rfl, rfl, rfl, rfl⟩ := H
    have := NB1199_1200.out
    have := NB1200_1199.out
    have := NB1199_1201.out
    have := NB1201_1199.out
    obtain ⟨_, _, _, _, _, _⟩ := cells3 BK1199.out
    have := NB1200_1201.out
    have := NB1201_1200.out
    obtain ⟨_, _, _, _, _, _⟩ := cells3 BK1200.out
    obtain ⟨_, _, _, _, _, _⟩ := cells3 BK1201.out
    go_wp2
    refine rct gb1201 106 #[.int .i64 0, .int .i64 0, .string (⟨#[]⟩ : ByteArray)] Tryd.underlying106 ?_
    exact ⟨qR, qB⟩
   by_cases c173 : a1_2.size + a2_2.size ≤ 9223372036854775807
   ·rw [if_pos c173] at H
    have c173b0 := eq_true c173
    have c173b1 := decide_eq_true c173
    try have c173b2 : (9223372036854775807 < a1_2.size + a2_2.size) = False := eq_false (Nat.not_lt.2 c173)
    have c173w : wrap64 ((a1_2.size : Int) + (a2_2.size : Int)) = (a1_2.size : Int) + (a2_2.size : Int) := by unfold wrap64; omega
    have c173u := c166b0
    rw [c173w] at c173u
    replace c173u := of_decide_eq_false c173u
    simp only [Option.some.injEq, Prod.mk.injEq] at H
    obtain ⟨rfl, rfl, rfl, rfl⟩ := H
    have := NB1199_1200.out
    have := NB1200_1199.out
    have := NB1199_1201.out
    have := NB1201_1199.out
    obtain ⟨_, _, _, _, _, _⟩ := cells3 BK1199.out
    have := NB1200_1201.out
    have := NB1201_1200.out
    obtain ⟨_, _, _, _, _, _⟩ := cells3 BK1200.out
    obtain ⟨_, _, _, _, _, _⟩ := cells3 BK1201.out
    go_wp2
    refine rct gb1201 106 #[.int .i64 3, .int .i64 0, .string (a1_2 ++ a2_2)] Tryd.underlying106 ?_
    exact ⟨qR, qB⟩
   rw [if_neg c173] at H
   exact absurd H (by simp)
end Go.Proofs.YtbngfhlciebeeaaDoor.L
end
section
namespace Go.Proofs.YtbngfhlciebeeaaDoor.Sp
set_option linter.unusedVariables false
set_option linter.unusedSimpArgs false
open Go.RowKit Go.Proofs.YtbngfhlciebeeaaDoorW.PrintWords Go.Proofs.YtbngfhlciebeeaaDoorW.PrintMore Go.Proofs.YtbngfhlciebeeaaDoor.L
abbrev R4 := Int × Int × ByteArray × Int
def ovR (r : Int) : R4 := if -9223372036854775808 ≤ r ∧ r ≤ 9223372036854775807 then (1, r, ⟨#[]⟩, 0) else (0, 0, ⟨#[]⟩, 21)
theorem ovR_in {r : Int} (h : -9223372036854775808 ≤ r ∧ r ≤ 9223372036854775807) : ovR r = (1, r, ⟨#[]⟩, 0) := if_pos h
theorem ovR_out {r : Int} (h : ¬ (-9223372036854775808 ≤ r ∧ r ≤ 9223372036854775807)) : ovR r = (0, 0, ⟨#[]⟩, 21) := if_neg h
def divR (a b : Int) : R4 := if b = 0 then (0, 0, ⟨#[]⟩, 22) else ovR (Int.tdiv a b)
def remR (a b : Int) : R4 := if b = 0 then (0, 0, ⟨#[]⟩, 22) else (1, Int.tmod a b, ⟨#[]⟩, 0)
theorem over_ok {n : Int} : val_over.f n false = some (1, n, ⟨#[]⟩, 0) := rfl
theorem over_no {n : Int} : val_over.f n true = some (0, 0, ⟨#[]⟩, 21) := rfl
theorem over_d {n r : Int} {p : Bool} (h : p = true → ¬ (-9223372036854775808 ≤ r ∧ r ≤ 9223372036854775807)) (h' : p = false → -9223372036854775808 ≤ r ∧ r ≤ 9223372036854775807 ∧ n = r) : val_over.f n p = some (ovR r) := by
  cases p with
  | true => rw [over_no, ovR_out (h rfl)]
  | false => obtain ⟨h1, h2, h3⟩ := h' rfl; rw [over_ok, ovR_in ⟨h1, h2⟩, h3]
theorem bind4 {o : Option R4} : (o.bind fun bt => (some (bt.1, bt.2.1, bt.2.2.1, bt.2.2.2) : Option R4)) = o := by cases o <;> rfl
section
variable {a b : Int}
theorem vAdd (ha : Opn.I64 a) (hb : Opn.I64 b) (k : Nat) : val_number.f k 6 a b = some (ovR (a + b)) := by
  unfold Opn.I64 at ha hb
  unfold val_number.f
  simp only [bind4]
  rw [if_pos trivial]
  have hw : (wrap64 (a + b) = a + b ∧ -9223372036854775808 ≤ a + b ∧ a + b ≤ 9223372036854775807) ∨ (wrap64 (a + b) = a + b - 18446744073709551616 ∧ a + b > 9223372036854775807) ∨ (wrap64 (a + b) = a + b + 18446744073709551616 ∧ a + b < -9223372036854775808) := by unfold wrap64; omega
  by_cases h1 : b > 0
  · rw [if_pos h1]
    by_cases h2 : wrap64 (a + b) < a
    · rw [if_pos h2]
      exact over_d (fun _ => by omega) (fun h => by cases h)
    · rw [if_neg h2, if_neg (by omega)]
      exact over_d (fun h => by cases h) (fun _ => by omega)
  · rw [if_neg h1]
    by_cases h2 : b < 0
    · rw [if_pos h2]
      exact over_d (fun h => by have := of_decide_eq_true h; omega) (fun h => by have := of_decide_eq_false h; omega)
    · rw [if_neg h2]
      exact over_d (fun h => by cases h) (fun _ => by omega)
theorem vSub (ha : Opn.I64 a) (hb : Opn.I64 b) (k : Nat) : val_number.f k 7 a b = some (ovR (a - b)) := by
  unfold Opn.I64 at ha hb
  unfold val_number.f
  simp only [bind4]
  rw [if_neg (by decide), if_pos trivial]
  have hw : (wrap64 (a - b) = a - b ∧ -9223372036854775808 ≤ a - b ∧ a - b ≤ 9223372036854775807) ∨ (wrap64 (a - b) = a - b - 18446744073709551616 ∧ a - b > 9223372036854775807) ∨ (wrap64 (a - b) = a - b + 18446744073709551616 ∧ a - b < -9223372036854775808) := by unfold wrap64; omega
  by_cases h1 : b < 0
  · rw [if_pos h1]
    by_cases h2 : wrap64 (a - b) < a
    · rw [if_pos h2]
      exact over_d (fun _ => by omega) (fun h => by cases h)
    · rw [if_neg h2, if_neg (by omega)]
      exact over_d (fun h => by cases h) (fun _ => by omega)
  · rw [if_neg h1]
    by_cases h2 : b > 0
    · rw [if_pos h2]
      exact over_d (fun h => by have := of_decide_eq_true h; omega) (fun h => by have := of_decide_eq_false h; omega)
    · rw [if_neg h2]
      exact over_d (fun h => by cases h) (fun _ => by omega)
theorem rSum (ha : Opn.I64 a) (hb : Opn.I64 b) : whirligigref01_sum.f a b = some (ovR (a + b)) := by
  unfold Opn.I64 at ha hb
  unfold whirligigref01_sum.f
  by_cases h1 : b > 0
  · rw [if_pos h1, wrap_at (x := 9223372036854775807 - b) (by omega) (by omega)]
    by_cases h2 : a > 9223372036854775807 - b
    · rw [if_pos h2, ovR_out (by omega)]
    · rw [if_neg h2, if_neg (by omega), wrap_at (by omega) (by omega), ovR_in (by omega)]
  · rw [if_neg h1]
    by_cases h2 : b < 0
    · rw [if_pos h2, wrap_at (x := (-9223372036854775808) - b) (by omega) (by omega)]
      by_cases h3 : a < (-9223372036854775808) - b
      · rw [if_pos h3, ovR_out (by omega)]
      · rw [if_neg h3, wrap_at (by omega) (by omega), ovR_in (by omega)]
    · rw [if_neg h2, wrap_at (by omega) (by omega), ovR_in (by omega)]
theorem rLess (ha : Opn.I64 a) (hb : Opn.I64 b) : whirligigref01_less.f a b = some (ovR (a - b)) := by
  have ha' := ha
  unfold Opn.I64 at ha hb
  unfold whirligigref01_less.f
  simp only [bind4]
  by_cases h1 : b = -9223372036854775808
  · rw [if_pos h1]
    by_cases h2 : a ≥ 0
    · rw [if_pos h2, ovR_out (by omega)]
    · rw [if_neg h2, wrap_at (by omega) (by omega), ovR_in (by omega)]
  · rw [if_neg h1, wrap_at (x := -b) (by omega) (by omega), rSum ha' ⟨by omega, by omega⟩, show a + -b = a - b by omega]
theorem tdiv_abs (h : b ≠ 0) : (Int.tdiv a b).natAbs ≤ a.natAbs := by
  rw [Int.natAbs_tdiv]; exact Nat.div_le_self _ _
theorem tdiv_two (h : 2 ≤ b.natAbs) : (Int.tdiv a b).natAbs * 2 ≤ a.natAbs := by
  rw [Int.natAbs_tdiv]
  calc a.natAbs / b.natAbs * 2 ≤ a.natAbs / b.natAbs * b.natAbs := Nat.mul_le_mul_left _ h
    _ ≤ a.natAbs := Nat.div_mul_le_self _ _
theorem tdiv_in (ha : Opn.I64 a) (hb : Opn.I64 b) (h0 : b ≠ 0) (h1 : ¬ (a = -9223372036854775808 ∧ b = -1)) : -9223372036854775808 ≤ Int.tdiv a b ∧ Int.tdiv a b ≤ 9223372036854775807 := by
  have h2 := tdiv_abs (a := a) h0
  unfold Opn.I64 at ha hb
  by_cases e : a = -9223372036854775808
  · subst e
    by_cases e1 : b = 1
    · subst e1; decide
    · have h3 := tdiv_two (a := -9223372036854775808) (show 2 ≤ b.natAbs by omega)
      omega
  · omega
theorem min_div : Int.tdiv (-9223372036854775808) (-1) = 9223372036854775808 := by decide
theorem vDiv (ha : Opn.I64 a) (hb : Opn.I64 b) (k : Nat) : val_number.f (k + 1) 4 a b = some (divR a b) := by
  have ha' := ha
  have hb' := hb
  unfold Opn.I64 at ha hb
  unfold val_number.f divR
  simp only [bind4]
  rw [if_neg (by decide), if_neg (by decide), if_neg (by decide)]
  by_cases h0 : b = 0
  · rw [if_pos h0, if_pos h0]
  · rw [if_neg h0, if_neg (by decide), if_neg h0]
    simp only [val_number.j0, bind4]
    rw [if_neg (by decide), if_neg (by decide)]
    by_cases h1 : b = -1
    · rw [if_pos h1]
      subst h1
      have hd : Int.tdiv a (-1) = -a := by rw [Int.tdiv_neg, Int.tdiv_one]
      rw [hd]
      by_cases h2 : a = -9223372036854775808
      · exact over_d (fun _ => by omega) (fun h => by rw [beq_eq_false_iff_ne] at h; exact absurd h2 h)
      · exact over_d (fun h => absurd (beq_iff_eq.1 h) h2) (fun _ => ⟨by omega, by omega, wrap_at (by omega) (by omega)⟩)
    · rw [if_neg h1, if_neg h0]
      obtain ⟨h3, h4⟩ := tdiv_in ha' hb' h0 (fun h => h1 h.2)
      rw [ovR_in ⟨h3, h4⟩, wrap_at h3 h4]; rfl
theorem vRem (k : Nat) : val_number.f (k + 1) 5 a b = some (remR a b) := by
  unfold val_number.f remR
  simp only [bind4]
  rw [if_neg (by decide), if_neg (by decide), if_neg (by decide)]
  by_cases h0 : b = 0
  · rw [if_pos h0, if_pos h0]
  · rw [if_neg h0, if_pos trivial, if_neg h0]
    simp only [val_number.j0, bind4]
    by_cases h1 : b = -1
    · subst h1
      rw [if_pos rfl, Int.tmod_neg, Int.tmod_one]; rfl
    · rw [if_neg (by simpa using h1), if_pos trivial, if_neg h0]; rfl
theorem rDiv (ha : Opn.I64 a) (hb : Opn.I64 b) (k : Nat) : whirligigref01_divide.f (k + 1) a b false = some (divR a b) := by
  have ha' := ha
  have hb' := hb
  unfold Opn.I64 at ha hb
  unfold whirligigref01_divide.f divR
  by_cases h0 : b = 0
  · rw [if_pos h0, if_pos h0]
  · rw [if_neg h0, if_neg h0]
    simp only [whirligigref01_divide.j0]
    by_cases h2 : a = -9223372036854775808
    · rw [if_pos h2]
      by_cases h1 : b = -1
      · subst h1 h2
        rw [if_pos (by decide), if_neg (by decide), min_div, ovR_out (by omega)]
      · rw [if_neg (by simpa using h1), if_neg (by decide), if_neg h0]
        obtain ⟨h3, h4⟩ := tdiv_in ha' hb' h0 (fun h => h1 h.2)
        rw [ovR_in ⟨h3, h4⟩, wrap_at h3 h4]
    · rw [if_neg h2, if_neg (by decide), if_neg (by decide), if_neg h0]
      obtain ⟨h3, h4⟩ := tdiv_in ha' hb' h0 (fun h => h2 h.1)
      rw [ovR_in ⟨h3, h4⟩, wrap_at h3 h4]
theorem tmod_in (hb : Opn.I64 b) (h0 : b ≠ 0) : -9223372036854775808 ≤ Int.tmod a b ∧ Int.tmod a b ≤ 9223372036854775807 := by
  unfold Opn.I64 at hb
  have h1 : (Int.tmod a b).natAbs < b.natAbs := by rw [Int.natAbs_tmod]; exact Nat.mod_lt _ (by omega)
  omega
theorem rRem (ha : Opn.I64 a) (hb : Opn.I64 b) (k : Nat) : whirligigref01_divide.f (k + 1) a b true = some (remR a b) := by
  have ha' := ha
  have hb' := hb
  unfold Opn.I64 at ha hb
  unfold whirligigref01_divide.f remR
  by_cases h0 : b = 0
  · rw [if_pos h0, if_pos h0]
  · rw [if_neg h0, if_neg h0]
    simp only [whirligigref01_divide.j0]
    have key : ¬ (a = -9223372036854775808 ∧ b = -1) → wrap64 (a - wrap64 (wrap64 (Int.tdiv a b) * b)) = Int.tmod a b := fun h => by
      obtain ⟨h3, h4⟩ := tdiv_in ha' hb' h0 h
      obtain ⟨h5, h6⟩ := tmod_in (a := a) hb' h0
      rw [wrap_at h3 h4]
      have h7 : Int.tdiv a b * b = a - Int.tmod a b := by have := Int.tmod_add_mul_tdiv a b; rw [Int.mul_comm] at this; omega
      rw [h7]
      have h8 : wrap64 (a - Int.tmod a b) = a - Int.tmod a b ∨ wrap64 (a - Int.tmod a b) = a - Int.tmod a b - 18446744073709551616 ∨ wrap64 (a - Int.tmod a b) = a - Int.tmod a b + 18446744073709551616 := by unfold wrap64; omega
      unfold wrap64 at h8 ⊢
      omega
    by_cases h2 : a = -9223372036854775808
    · rw [if_pos h2]
      by_cases h1 : b = -1
      · subst h1 h2
        rw [if_pos (by decide), if_pos trivial]; rfl
      · rw [if_neg (by simpa using h1), if_pos trivial, if_neg h0, key (fun h => h1 h.2)]
    · rw [if_neg h2, if_neg (by decide), if_pos trivial, if_neg h0, key (fun h => h2 h.1)]
theorem vMul (ha : Opn.I64 a) (hb : Opn.I64 b) (k : Nat) : val_number.f k 3 a b = some (ovR (a * b)) := by
  unfold Opn.I64 at ha hb
  unfold val_number.f
  simp only [bind4]
  rw [if_neg (by decide), if_neg (by decide), if_pos trivial]
  by_cases h1 : a = -1
  · subst h1
    rw [if_pos rfl, show (-1 : Int) * b = -b by omega]
    by_cases h2 : b = -9223372036854775808
    · rw [if_pos h2]
      exact over_d (fun _ => by omega) (fun h => by cases h)
    · rw [if_neg h2]
      have hw : wrap64 (-b) = -b := wrap_at (by omega) (by omega)
      have key : val_over.f (wrap64 (-b)) false = some (ovR (-b)) := over_d (fun h => by cases h) (fun _ => ⟨by omega, by omega, hw⟩)
      repeat' split
      all_goals first | exact key | (rename_i h; exact absurd h (by decide))
  · rw [if_neg h1]
    by_cases h0 : a = 0
    · subst h0
      rw [Int.zero_mul]
      have key : val_over.f (wrap64 0) false = some (ovR 0) := over_d (fun h => by cases h) (fun _ => ⟨by omega, by omega, wrap_at (by omega) (by omega)⟩)
      repeat' split
      all_goals first | exact key | (rename_i h; exact absurd h (by decide))
    · rw [if_neg h0]
      have key : val_over.f (wrap64 (a * b)) (wrap64 (Int.tdiv (wrap64 (a * b)) a) != b) = some (ovR (a * b)) := by
        obtain ⟨m, hm⟩ : ∃ m : Int, wrap64 (a * b) = a * b - m * 18446744073709551616 ∧ -9223372036854775808 ≤ wrap64 (a * b) ∧ wrap64 (a * b) ≤ 9223372036854775807 := ⟨(a * b + 9223372036854775808) / 18446744073709551616, by unfold wrap64; omega⟩
        obtain ⟨hm1, hm2, hm3⟩ := hm
        obtain ⟨h3, h4⟩ := tdiv_in (a := wrap64 (a * b)) (b := a) ⟨hm2, hm3⟩ ⟨ha.1, ha.2⟩ h0 (fun h => h1 h.2)
        rw [wrap_at h3 h4]
        refine over_d (fun h hr => ?_) (fun h => ?_)
        · -- where the product is in range, the quotient is b
          rw [wrap_at hr.1 hr.2] at h
          rw [Int.mul_tdiv_cancel_left b h0] at h
          simp at h
        · rw [bne_eq_false_iff_eq] at h
          have h5 : (Int.tmod (wrap64 (a * b)) a).natAbs < a.natAbs := by rw [Int.natAbs_tmod]; exact Nat.mod_lt _ (by omega)
          have h6 := Int.tmod_add_mul_tdiv (wrap64 (a * b)) a
          rw [h] at h6
          have h7 : m = 0 := by omega
          subst h7
          omega
      by_cases h2 : b = -1
      · rw [if_pos h2]
        by_cases h3 : a = -9223372036854775808
        · rw [if_pos h3]
          exact over_d (fun _ => by subst h2 h3; decide) (fun h => by cases h)
        · rw [if_neg h3]
          exact key
      · rw [if_neg h2]
        exact key
end
end Go.Proofs.YtbngfhlciebeeaaDoor.Sp
end
