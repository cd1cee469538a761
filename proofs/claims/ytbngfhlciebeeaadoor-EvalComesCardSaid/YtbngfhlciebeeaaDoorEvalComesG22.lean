/- Printed and hand-written steps towards the row (EvalComes), those that it reaches. -/
import Derived.Test.YtbngfhlciebeeaaDoorEvalComesG3
import Derived.Test.YtbngfhlciebeeaaDoorEvalComesG4
import Derived.Test.YtbngfhlciebeeaaDoorEvalComesG21
section
namespace Go.Proofs.YtbngfhlciebeeaaDoor.L
open Go.RowKit Go.Proofs.YtbngfhlciebeeaaDoorW.PrintWords Go.Proofs.YtbngfhlciebeeaaDoorW.PrintLast Go.Proofs.YtbngfhlciebeeaaDoorW.PrintMore
attribute [local go_sem] max2_int min2_int max_two min_two max_three min_three max_four min_four   -- for this text's walks alone
set_option linter.unusedVariables false
set_option linter.unusedSimpArgs false
mutual
def whirligigref01_times.j0 : Nat → Int → Int → Int → Int → Option (Int × Int × ByteArray × Int)
 | 0, _, _, _, _ => none
 | k + 1, x0, x1, x6, x7 => if x1 = (-9223372036854775808) then (whirligigref01_times.j1 k x0 x1 x6 x1) else (whirligigref01_times.j1 k x0 x1 x6 x7)
def whirligigref01_times.j1 : Nat → Int → Int → Int → Int → Option (Int × Int × ByteArray × Int)
 | 0, _, _, _, _ => none
 | k + 1, x0, x1, x6, x7 => if x6 = 0 then (whirligigref01_times.j2 k x0 x1 x6 x7 false) else (if (wrap64 (-(mx x6 (-9223372036854775807)))) = 0 then (none) else (whirligigref01_times.j2 k x0 x1 x6 x7 (decide (x7 < (wrap64 ((wrap64 (Int.tdiv (-9223372036854775807) (wrap64 (-(mx x6 (-9223372036854775807)))))) - 1))))))
def whirligigref01_times.j2 : Nat → Int → Int → Int → Int → Bool → Option (Int × Int × ByteArray × Int)
 | 0, _, _, _, _, _ => none
 | k + 1, x0, x1, x6, x7, x33 => if x33 = true then (some (0, 0, (⟨#[]⟩ : ByteArray), 21)) else ((whirligigref01_product.f k x6 x7).bind fun bt1192 => (if bt1192.2.1 > 0 then (whirligigref01_times.j3 k x0 x1 true bt1192.1 bt1192.2.1 bt1192.2.2) else (whirligigref01_times.j3 k x0 x1 (bt1192.1 == 0) bt1192.1 bt1192.2.1 bt1192.2.2)))
def whirligigref01_times.j3 : Nat → Int → Int → Bool → Int → Int → ByteArray → Option (Int × Int × ByteArray × Int)
 | 0, _, _, _, _, _, _ => none
 | k + 1, x0, x1, x45, x1196000, x1196001, x1196002 => if x45 = true then (some (0, 0, (⟨#[]⟩ : ByteArray), 21)) else (if ((decide (x0 < 0)) == (decide (x1 < 0))) = true then (if x1196001 = (-9223372036854775808) then (some (0, 0, (⟨#[]⟩ : ByteArray), 21)) else (some (x1196000, wrap64 (-x1196001), x1196002, 0))) else (some (x1196000, x1196001, x1196002, 0)))
end
def whirligigref01_times.f (k : Nat) (a0 : Int) (a1 : Int) : Option (Int × Int × ByteArray × Int) := if a0 = (-9223372036854775808) then (whirligigref01_times.j0 k a0 a1 a0 (mn a1 (wrap64 (-a1)))) else (whirligigref01_times.j0 k a0 a1 (mn a0 (wrap64 (-a0))) (mn a1 (wrap64 (-a1))))
set_option maxHeartbeats 8000000 in
set_option maxRecDepth 100000 in
theorem whirligigref01_times.calls (k : Nat) (a0 : Int) (a1 : Int) (r1 : Int) (r2 : Int) (r3 : ByteArray) (r4 : Int) (w : World) (h : whirligigref01_times.f k a0 a1 = some (r1, r2, r3, r4)) :
  Calls Tryd.prog 128 #[.int .i64 a0, .int .i64 a1] w fun e w' => e = .returned (.tuple #[.agg #[.int .i64 r1, .int .i64 r2, .string r3], .int .i64 r4]) ∧ Below w.heap.size w w' := by
 have hu106 := Tryd.underlying106
 have HB := Aside0.mk (Below.refl w.heap.size w)
 have H : (if a0 = (-9223372036854775808) then (whirligigref01_times.j0 k a0 a1 a0 (mn a1 (wrap64 (-a1)))) else (whirligigref01_times.j0 k a0 a1 (mn a0 (wrap64 (-a0))) (mn a1 (wrap64 (-a1))))) = some (r1, r2, r3, r4) := h
 clear h
 obtain ⟨ji3, hji3⟩ : ∃ j_ : Int, (mn a0 (wrap64 (-a0))) = j_ := ⟨_, rfl⟩
 replace H : (if a0 = (-9223372036854775808) then (whirligigref01_times.j0 k a0 a1 a0 (mn a1 (wrap64 (-a1)))) else (whirligigref01_times.j0 k a0 a1 ji3 (mn a1 (wrap64 (-a1))))) = some (r1, r2, r3, r4) := by first | (rw [hji3] at H; exact H) | (simp only [hji3] at H ⊢; exact H)
 have hji3_ : (if (wrap64 (-a0)) < a0 then (wrap64 (-a0)) else a0) = ji3 := hji3
 obtain ⟨ji4, hji4⟩ : ∃ j_ : Int, (mn a1 (wrap64 (-a1))) = j_ := ⟨_, rfl⟩
 replace H : (if a0 = (-9223372036854775808) then (whirligigref01_times.j0 k a0 a1 a0 ji4) else (whirligigref01_times.j0 k a0 a1 ji3 ji4)) = some (r1, r2, r3, r4) := by first | (rw [hji4] at H; exact H) | (simp only [hji4] at H ⊢; exact H)
 have hji4_ : (if (wrap64 (-a1)) < a1 then (wrap64 (-a1)) else a1) = ji4 := hji4
 have HC5 := Aside0.mk H
 clear H
 go_enter Tryd.func128, Tryd.ntmps128
 go_upto_if 18 with (first | ((with_reducible refine gate_dst (N := 4) rfl ?_); (try (refine gate_guard (by rfl) ?_; dsimp only)); refine box_event ?hg (N := 4) ?hd (cs := #[.int .i64 0, .int .i64 0, .string (⟨#[]⟩ : ByteArray)]) (t := 106) ?hr ?_; (case hd => rfl); (case hg => rfl); (case hr => first | (go_simp; done) | (go_simp; rfl)); intro gb1191 hg w6 hbox hb; have BK1191 := Aside0.mk (hbox); have GW1191 := geS hg; have GE1191 := geS hg; replace HB := bst hb; clear hb hbox hg))
 (try simp only [Act.put, List.setIfInBounds_toArray, List.set_cons_zero, List.set_cons_succ])
 go_cut [6] (fun v6 wc => ∃ (kq : Nat) (x6_4 : Int), v6 = .int .i64 x6_4 ∧ Aside0 (whirligigref01_times.j0 kq a0 a1 x6_4 ji4 = some (r1, r2, r3, r4)) ∧ Aside0 (kq ≤ k) ∧ Aside0 (wc.heap[gb1191]? = some (.cells #[.int .i64 0, .int .i64 0, .string (⟨#[]⟩ : ByteArray)] 106 (0, 0))) ∧ Aside0 (Below w.heap.size w wc))
 case first =>
  have H := HC5.out
  clear HC5
  by_cases c7 : a0 = (-9223372036854775808)
  ·rw [if_pos c7] at H
   have c7b0 := beq_iff_eq.mpr c7
   have c7b1 := bne_eq_false_iff_eq.mpr c7
   clear c7
   (first | rw [c7b0] | (simp only [i64_w, i32_w]; rw [c7b0]) | skip)
   have H' := Aside0.mk H
   clear H
   go_wp2
   go_meet
   case rel => exact ⟨_, (a0), qE, H', ⟨by first | omega | exact Nat.le_refl _⟩, ⟨qK⟩, ⟨qB⟩⟩
  rw [if_neg c7] at H
  have c7b0 := beq_eq_false_iff_ne.mpr c7
  have c7b1 := bne_iff_ne.mpr c7
  (first | rw [c7b0] | (simp only [i64_w, i32_w]; rw [c7b0]) | skip)
  have H' := Aside0.mk H
  clear H
  go_wp2
  go_meet
  case rel => exact ⟨_, (ji3), (by first | rfl | (simp; done) | (simp only [← hji3] <;> (first | rfl | simp)) | (simp [*]; done)), H', ⟨by first | omega | exact Nat.le_refl _⟩, ⟨qK⟩, ⟨qB⟩⟩
 case rest =>
  clear HC5
  try clear p2
  try clear p6
  obtain ⟨kq, x6_4, rfl, HA, HJ4, BK1191, HB⟩ := hcut
  cases kq with
  | zero => exact absurd HA.out (by simp [whirligigref01_times.j0])
  | succ kj4 =>
   have H := HA.out
   clear HA
   simp only [whirligigref01_times.j0] at H
   have HC8 := Aside0.mk H
   clear H
   go_upto_if 21 with (fail)
   go_cut [7] (fun v7 wc => ∃ (kq : Nat) (x7_7 : Int), v7 = .int .i64 x7_7 ∧ Aside0 (whirligigref01_times.j1 kq a0 a1 x6_4 x7_7 = some (r1, r2, r3, r4)) ∧ Aside0 (kq ≤ kj4) ∧ Aside0 (wc.heap[gb1191]? = some (.cells #[.int .i64 0, .int .i64 0, .string (⟨#[]⟩ : ByteArray)] 106 (0, 0))) ∧ Aside0 (Below w.heap.size w wc))
   case first =>
    have H := HC8.out
    clear HC8
    by_cases c9 : a1 = (-9223372036854775808)
    ·rw [if_pos c9] at H; have c9b0 := beq_iff_eq.mpr c9; have c9b1 := bne_eq_false_iff_eq.mpr c9; clear c9; (first | rw [c9b0] | (simp only [i64_w, i32_w]; rw [c9b0]) | skip); have H' := Aside0.mk H; clear H
     go_wp2
     go_meet
     case rel => exact ⟨_, (a1), qE, H', ⟨by have := HJ4.out; first | omega | exact Nat.le_refl _⟩, ⟨qK⟩, ⟨qB⟩⟩
    rw [if_neg c9] at H
    have c9b0 := beq_eq_false_iff_ne.mpr c9
    have c9b1 := bne_iff_ne.mpr c9
    (first | rw [c9b0] | (simp only [i64_w, i32_w]; rw [c9b0]) | skip)
    have H' := Aside0.mk H
    clear H
    go_wp2
    go_meet
    case rel => exact ⟨_, (ji4), (by first | rfl | (simp; done) | (simp only [← hji4] <;> (first | rfl | simp)) | (simp [*]; done)), H', ⟨by have := HJ4.out; first | omega | exact Nat.le_refl _⟩, ⟨qK⟩, ⟨qB⟩⟩
   case rest =>
    clear HC8
    try clear p2 p2
    try clear p6 p6
    obtain ⟨kq, x7_7, rfl, HA, HJ7, BK1191, HB⟩ := hcut
    cases kq with
    | zero => exact absurd HA.out (by simp [whirligigref01_times.j1])
    | succ kj7 =>
     have H := HA.out; clear HA; simp only [whirligigref01_times.j1] at H; have HC10 := Aside0.mk H; clear H
     go_upto_region 7 with (fail)
     go_cut [33] (fun v33 wc => ∃ (kq : Nat) (x33_9 : Bool), v33 = .bool x33_9 ∧ Aside0 (whirligigref01_times.j2 kq a0 a1 x6_4 x7_7 x33_9 = some (r1, r2, r3, r4)) ∧ Aside0 (kq ≤ kj7) ∧ Aside0 (wc.heap[gb1191]? = some (.cells #[.int .i64 0, .int .i64 0, .string (⟨#[]⟩ : ByteArray)] 106 (0, 0))) ∧ Aside0 (Below w.heap.size w wc))
     case first =>
      have H := HC10.out; clear HC10
      by_cases c11 : x6_4 = 0
      ·rw [if_pos c11] at H; have c11b0 := beq_iff_eq.mpr c11; have c11b1 := bne_eq_false_iff_eq.mpr c11; clear c11; (first | rw [c11b0] | (simp only [i64_w, i32_w]; rw [c11b0]) | skip); have H' := Aside0.mk H; clear H
       go_wp2
       go_meet
       case rel => exact ⟨_, (false), qE, H', ⟨by have := HJ4.out; have := HJ7.out; first | omega | exact Nat.le_refl _⟩, ⟨qK⟩, ⟨qB⟩⟩
      rw [if_neg c11] at H; have c11b0 := beq_eq_false_iff_ne.mpr c11; have c11b1 := bne_iff_ne.mpr c11; (first | rw [c11b0] | (simp only [i64_w, i32_w]; rw [c11b0]) | skip); obtain ⟨ji12, hji12⟩ : ∃ j_ : Int, (mx x6_4 (-9223372036854775807)) = j_ := ⟨_, rfl⟩; replace H : (if (wrap64 (-(ji12))) = 0 then (none) else (whirligigref01_times.j2 kj7 a0 a1 x6_4 x7_7 (decide (x7_7 < (wrap64 ((wrap64 (Int.tdiv (-9223372036854775807) (wrap64 (-(ji12))))) - 1)))))) = some (r1, r2, r3, r4) := by first | (rw [hji12] at H; exact H) | (simp only [hji12] at H ⊢; exact H)
      have hji12_ : (if x6_4 < (-9223372036854775807) then (-9223372036854775807) else x6_4) = ji12 := hji12
      by_cases c13 : (wrap64 (-(ji12))) = 0
      ·rw [if_pos c13] at H; exact absurd H (by simp)
      rw [if_neg c13] at H; have c13b0 := beq_eq_false_iff_ne.mpr c13; have c13b1 := bne_iff_ne.mpr c13; have H' := Aside0.mk H; clear H
      go_wp2
      go_meet
      case rel => exact ⟨_, (decide (x7_7 < (wrap64 ((wrap64 (Int.tdiv (-9223372036854775807) (wrap64 (-(ji12))))) - 1)))), (by first | rfl | (simp; done) | (simp only [← hji12] <;> (first | rfl | simp)) | (simp [*]; done)), H', ⟨by have := HJ4.out; have := HJ7.out; first | omega | exact Nat.le_refl _⟩, ⟨qK⟩, ⟨qB⟩⟩
     case rest =>
      clear HC10
      try clear p2 p2
      try clear p6 p6
      obtain ⟨kq, x33_9, rfl, HA, HJ9, BK1191, HB⟩ := hcut; cases kq with
      | zero => exact absurd HA.out (by simp [whirligigref01_times.j2])
      | succ kj9 =>
       have H := HA.out; clear HA; simp only [whirligigref01_times.j2] at H
       by_cases c14 : x33_9 = true
       ·subst c14; rw [if_pos rfl] at H; simp only [Option.some.injEq, Prod.mk.injEq] at H; obtain ⟨rfl, rfl, rfl, rfl⟩ := H; obtain ⟨_, _, _, _, _, _⟩ := cells3 BK1191.out
        go_wp2
        refine rct gb1191 106 #[.int .i64 0, .int .i64 0, .string (⟨#[]⟩ : ByteArray)] Tryd.underlying106 ?_; exact ⟨by first | rfl | (simp [errW_none, errW_some] <;> rfl) | (simp only [← hji3, ← hji4]; first | rfl | (simp [errW_none, errW_some] <;> rfl)) | (simp [*, errW_none, errW_some] <;> rfl), qB⟩
       replace c14 := Bool.eq_false_iff.mpr c14; subst c14; rw [if_neg (show ¬ (false = true) by decide)] at H; replace H := Option.bind_eq_some_iff.mp H; obtain ⟨⟨t1192, t1193, t1194⟩, A160, H⟩ := H; (try dsimp -simprocs only at H); have A16 := Aside0.mk A160; clear A160; have HC17 := Aside0.mk H; clear H
       go_upto_region 10 with (first | ((with_reducible refine gc 151 rfl ?_); refine gl (some 37) #[.int .i64 x6_4, .int .i64 x7_7] Tryd.func151 ?_; (with_reducible refine (whirligigref01_product.calls kj9 x6_4 x7_7 t1192 t1193 t1194 _ A16.out).mono ?_); rintro e w18 ⟨rfl, hb⟩; refine ⟨_, rfl, ?_⟩; replace BK1191 := kb gb1191 hb; replace HB := bst hb; (try clear hb)) | ((with_reducible refine gate_dst (N := 8) rfl ?_); (try (refine gate_guard (by rfl) ?_; dsimp only)); refine box_event ?hg (N := 8) ?hd (cs := #[.int .i64 0, .int .i64 0, .string (⟨#[]⟩ : ByteArray)]) (t := 106) ?hr ?_; (case hd => rfl); (case hg => rfl); (case hr => first | (go_simp; done) | (go_simp; rfl)); intro gb1195 hg w19 hbox hb; have BK1195 := Aside0.mk (hbox); have GW1195 := geS hg; have GE1195 := geS hg; have NB1191_1195 := neS gb1191 hg; have NB1195_1191 := neT gb1191 hg; replace BK1191 := kb gb1191 hb; replace HB := bst hb; clear hb hbox hg; have := NB1195_1191.out; have := NB1191_1195.out; obtain ⟨_, _, _, _, _, _⟩ := cells3 BK1195.out))
       (try simp only [Act.put, List.setIfInBounds_toArray, List.set_cons_zero, List.set_cons_succ])
       go_cut [45] (fun v45 wc => ∃ (kq : Nat) (x45_16 : Bool), v45 = .bool x45_16 ∧ Aside0 (whirligigref01_times.j3 kq a0 a1 x45_16 t1192 t1193 t1194 = some (r1, r2, r3, r4)) ∧ Aside0 (kq ≤ kj9) ∧ Aside0 (wc.heap[gb1191]? = some (.cells #[.int .i64 0, .int .i64 0, .string (⟨#[]⟩ : ByteArray)] 106 (0, 0))) ∧ Aside0 (wc.heap[gb1195]? = some (.cells #[.int .i64 t1192, .int .i64 t1193, .string t1194] 106 (0, 0))) ∧ Aside0 (Below w.heap.size w wc))
       case first =>
        have H := HC17.out; clear HC17; replace H := iD H
        rcases H with ⟨c22b0, H⟩ | ⟨c22b0, H⟩
        ·(first | rw [c22b0] | (simp only [i64_w, i32_w]; rw [c22b0]) | skip); have H' := Aside0.mk H; clear H; have := NB1195_1191.out; have := NB1191_1195.out; obtain ⟨_, _, _, _, _, _⟩ := cells3 BK1195.out
         go_wp2
         go_meet
         case rel => exact ⟨_, (true), qE, H', ⟨by have := HJ4.out; have := HJ7.out; have := HJ9.out; first | omega | exact Nat.le_refl _⟩, ⟨qK⟩, ⟨qP⟩, ⟨qB⟩⟩
        (first | rw [c22b0] | (simp only [i64_w, i32_w]; rw [c22b0]) | skip); have H' := Aside0.mk H; clear H; have := NB1195_1191.out; have := NB1191_1195.out; obtain ⟨_, _, _, _, _, _⟩ := cells3 BK1195.out
        go_wp2
        go_meet
        case rel => exact ⟨_, ((t1192 == 0)), qE, H', ⟨by have := HJ4.out; have := HJ7.out; have := HJ9.out; first | omega | exact Nat.le_refl _⟩, ⟨qK⟩, ⟨qP⟩, ⟨qB⟩⟩
       case rest =>
        clear HC17
        try clear p2 p2
        try clear p6 p6
        obtain ⟨kq, x45_16, rfl, HA, HJ16, BK1191, BK1195, HB⟩ := hcut; cases kq with
        | zero => exact absurd HA.out (by simp [whirligigref01_times.j3])
        | succ kj16 =>
         have H := HA.out; clear HA; simp only [whirligigref01_times.j3] at H
         by_cases c27 : x45_16 = true
         ·subst c27; rw [if_pos rfl] at H; simp only [Option.some.injEq, Prod.mk.injEq] at H; obtain ⟨rfl, rfl, rfl, rfl⟩ := H; have := NB1191_1195.out; have := NB1195_1191.out; obtain ⟨_, _, _, _, _, _⟩ := cells3 BK1191.out
          go_wp2
          refine rct gb1191 106 #[.int .i64 0, .int .i64 0, .string (⟨#[]⟩ : ByteArray)] Tryd.underlying106 ?_; exact ⟨by first | rfl | (simp [errW_none, errW_some] <;> rfl) | (simp only [← hji3, ← hji4]; first | rfl | (simp [errW_none, errW_some] <;> rfl)) | (simp [*, errW_none, errW_some] <;> rfl), qB⟩
         replace c27 := Bool.eq_false_iff.mpr c27; subst c27; rw [if_neg (show ¬ (false = true) by decide)] at H
         by_cases c30 : ((decide (a0 < 0)) == (decide (a1 < 0))) = true
         ·rw [if_pos c30] at H; have c30b0 : ((decide (a0 < 0)) == (decide (a1 < 0))) = true := c30; (try (have c30b1 : decide ((decide (a0 < 0)) = (decide (a1 < 0))) = true := by simpa using c30)); (try (have c30b2 : ((decide (a0 < 0)) == (decide (a1 < 0))) = true := by simpa using c30)); clear c30
          by_cases c31 : t1193 = (-9223372036854775808)
          ·rw [if_pos c31] at H; have c31b0 := beq_iff_eq.mpr c31; have c31b1 := bne_eq_false_iff_eq.mpr c31; clear c31; simp only [Option.some.injEq, Prod.mk.injEq] at H; obtain ⟨rfl, rfl, rfl, rfl⟩ := H; have := NB1195_1191.out; have := NB1191_1195.out; obtain ⟨_, _, _, _, _, _⟩ := cells3 BK1195.out; obtain ⟨_, _, _, _, _, _⟩ := cells3 BK1191.out
           go_wp2
           refine rct gb1191 106 #[.int .i64 0, .int .i64 0, .string (⟨#[]⟩ : ByteArray)] Tryd.underlying106 ?_; exact ⟨by first | rfl | (simp [errW_none, errW_some] <;> rfl) | (simp only [← hji3, ← hji4]; first | rfl | (simp [errW_none, errW_some] <;> rfl)) | (simp [*, errW_none, errW_some] <;> rfl), qB⟩
          rw [if_neg c31] at H; have c31b0 := beq_eq_false_iff_ne.mpr c31; have c31b1 := bne_iff_ne.mpr c31; simp only [Option.some.injEq, Prod.mk.injEq] at H; obtain ⟨rfl, rfl, rfl, rfl⟩ := H; have := NB1195_1191.out; have := NB1191_1195.out; obtain ⟨_, _, _, _, _, _⟩ := cells3 BK1195.out; obtain ⟨_, _, _, _, _, _⟩ := cells3 BK1191.out
          go_wp2
          refine rct gb1191 106 #[.int .i64 t1192, .int .i64 (wrap64 (-t1193)), .string t1194] Tryd.underlying106 ?_; exact ⟨by first | rfl | (simp [errW_none, errW_some] <;> rfl) | (simp only [← hji3, ← hji4]; first | rfl | (simp [errW_none, errW_some] <;> rfl)) | (simp [*, errW_none, errW_some] <;> rfl), qB⟩
         rw [if_neg c30] at H; have c30b0 : ((decide (a0 < 0)) == (decide (a1 < 0))) = false := by simpa using c30
         (try (have c30b1 : decide ((decide (a0 < 0)) = (decide (a1 < 0))) = false := by simpa using c30)); (try (have c30b2 : ((decide (a0 < 0)) == (decide (a1 < 0))) = false := by simpa using c30)); (try (have c30b3 : ¬ ((decide (a0 < 0)) = (decide (a1 < 0))) := by simpa using c30)); clear c30; simp only [Option.some.injEq, Prod.mk.injEq] at H; obtain ⟨rfl, rfl, rfl, rfl⟩ := H; have := NB1195_1191.out; have := NB1191_1195.out; obtain ⟨_, _, _, _, _, _⟩ := cells3 BK1195.out; obtain ⟨_, _, _, _, _, _⟩ := cells3 BK1191.out
         go_wp2
         refine rct gb1191 106 #[.int .i64 t1192, .int .i64 t1193, .string t1194] Tryd.underlying106 ?_; exact ⟨by first | rfl | (simp [errW_none, errW_some] <;> rfl) | (simp only [← hji3, ← hji4]; first | rfl | (simp [errW_none, errW_some] <;> rfl)) | (simp [*, errW_none, errW_some] <;> rfl), qB⟩
def whirligigref01_divide.j0 : Nat → Int → Int → Bool → Bool → Option (Int × Int × ByteArray × Int)
 | 0, _, _, _, _ => none
 | k + 1, x0, x1, x2, x16 => if x16 = true then (if x2 = true then (some (1, 0, (⟨#[]⟩ : ByteArray), 0)) else (some (0, 0, (⟨#[]⟩ : ByteArray), 21))) else (if x2 = true then (if x1 = 0 then (none) else (some (1, wrap64 (x0 - (wrap64 ((wrap64 (Int.tdiv x0 x1)) * x1))), (⟨#[]⟩ : ByteArray), 0))) else (if x1 = 0 then (none) else (some (1, wrap64 (Int.tdiv x0 x1), (⟨#[]⟩ : ByteArray), 0))))
def whirligigref01_divide.f (k : Nat) (a0 : Int) (a1 : Int) (a2 : Bool) : Option (Int × Int × ByteArray × Int) := if a1 = 0 then (some (0, 0, (⟨#[]⟩ : ByteArray), 22)) else (if a0 = (-9223372036854775808) then (whirligigref01_divide.j0 k a0 a1 a2 (a1 == (-1))) else (whirligigref01_divide.j0 k a0 a1 a2 false))
set_option maxHeartbeats 8000000 in
set_option maxRecDepth 100000 in
theorem whirligigref01_divide.calls (k : Nat) (a0 : Int) (a1 : Int) (a2 : Bool) (r1 : Int) (r2 : Int) (r3 : ByteArray) (r4 : Int) (w : World) (h : whirligigref01_divide.f k a0 a1 a2 = some (r1, r2, r3, r4)) :
  Calls Tryd.prog 129 #[.int .i64 a0, .int .i64 a1, .bool a2] w fun e w' => e = .returned (.tuple #[.agg #[.int .i64 r1, .int .i64 r2, .string r3], .int .i64 r4]) ∧ Below w.heap.size w w' := by
 have hu106 := Tryd.underlying106
 have HB := Aside0.mk (Below.refl w.heap.size w)
 have H : (if a1 = 0 then (some (0, 0, (⟨#[]⟩ : ByteArray), 22)) else (if a0 = (-9223372036854775808) then (whirligigref01_divide.j0 k a0 a1 a2 (a1 == (-1))) else (whirligigref01_divide.j0 k a0 a1 a2 false))) = some (r1, r2, r3, r4) := h
 clear h
 by_cases c4 : a1 = 0
 ·rw [if_pos c4] at H
  have c4b0 := beq_iff_eq.mpr c4
  have c4b1 := bne_eq_false_iff_eq.mpr c4
  clear c4
  simp only [Option.some.injEq, Prod.mk.injEq] at H
  obtain ⟨rfl, rfl, rfl, rfl⟩ := H
  go_enter Tryd.func129, Tryd.ntmps129
  go_wp2_with (first | ((with_reducible refine gd 6 rfl ?_); refine bxx 6 #[.int .i64 0, .int .i64 0, .string (⟨#[]⟩ : ByteArray)] 106 ?_; intro gb1196 w5 BK1196 GW1196 HB; obtain ⟨_, _, _, _, _, _⟩ := cells3 BK1196.out))
  refine rct gb1196 106 #[.int .i64 0, .int .i64 0, .string (⟨#[]⟩ : ByteArray)] Tryd.underlying106 ?_
  exact ⟨qR, qB⟩
 rw [if_neg c4] at H
 have c4b0 := beq_eq_false_iff_ne.mpr c4
 have c4b1 := bne_iff_ne.mpr c4
 have HC7 := Aside0.mk H
 clear H
 go_enter Tryd.func129, Tryd.ntmps129
 go_upto_region 3 with (first | ((with_reducible refine gd 6 rfl ?_); refine bxx 6 #[.int .i64 0, .int .i64 0, .string (⟨#[]⟩ : ByteArray)] 106 ?_; intro gb1196 w8 BK1196 GW1196 HB))
 (try simp only [Act.put, List.setIfInBounds_toArray, List.set_cons_zero, List.set_cons_succ])
 go_cut [16] (fun v16 wc => ∃ (kq : Nat) (x16_6 : Bool), v16 = .bool x16_6 ∧ Aside0 (whirligigref01_divide.j0 kq a0 a1 a2 x16_6 = some (r1, r2, r3, r4)) ∧ Aside0 (kq ≤ k) ∧ Aside0 (wc.heap[gb1196]? = some (.cells #[.int .i64 0, .int .i64 0, .string (⟨#[]⟩ : ByteArray)] 106 (0, 0))) ∧ Aside0 (Below w.heap.size w wc))
 case first =>
  have H := HC7.out
  clear HC7
  by_cases c9 : a0 = (-9223372036854775808)
  ·rw [if_pos c9] at H
   have c9b0 := beq_iff_eq.mpr c9
   have c9b1 := bne_eq_false_iff_eq.mpr c9
   clear c9
   (first | rw [c9b0] | (simp only [i64_w, i32_w]; rw [c9b0]) | skip)
   have H' := Aside0.mk H
   clear H
   go_wp2
   go_meet
   case rel => exact ⟨_, ((a1 == (-1))), qE, H', ⟨by first | omega | exact Nat.le_refl _⟩, ⟨qK⟩, ⟨qB⟩⟩
  rw [if_neg c9] at H
  have c9b0 := beq_eq_false_iff_ne.mpr c9
  have c9b1 := bne_iff_ne.mpr c9
  (first | rw [c9b0] | (simp only [i64_w, i32_w]; rw [c9b0]) | skip)
  have H' := Aside0.mk H
  clear H
  go_wp2
  go_meet
  case rel => exact ⟨_, (false), qE, H', ⟨by first | omega | exact Nat.le_refl _⟩, ⟨qK⟩, ⟨qB⟩⟩
 case rest =>
  clear HC7
  try clear p2
  obtain ⟨kq, x16_6, rfl, HA, HJ6, BK1196, HB⟩ := hcut
  cases kq with
  | zero => exact absurd HA.out (by simp [whirligigref01_divide.j0])
  | succ kj6 =>
   have H := HA.out
   clear HA
   simp only [whirligigref01_divide.j0] at H
   by_cases c10 : x16_6 = true
   ·subst c10
    rw [if_pos rfl] at H
    by_cases c11 : a2 = true
    ·subst c11; rw [if_pos rfl] at H; simp only [Option.some.injEq, Prod.mk.injEq] at H; obtain ⟨rfl, rfl, rfl, rfl⟩ := H; obtain ⟨_, _, _, _, _, _⟩ := cells3 BK1196.out
     go_wp2
     refine rct gb1196 106 #[.int .i64 1, .int .i64 0, .string (⟨#[]⟩ : ByteArray)] Tryd.underlying106 ?_; exact ⟨qR, qB⟩
    replace c11 := Bool.eq_false_iff.mpr c11
    subst c11
    rw [if_neg (show ¬ (false = true) by decide)] at H
    simp only [Option.some.injEq, Prod.mk.injEq] at H
    obtain ⟨rfl, rfl, rfl, rfl⟩ := H
    obtain ⟨_, _, _, _, _, _⟩ := cells3 BK1196.out
    go_wp2
    refine rct gb1196 106 #[.int .i64 0, .int .i64 0, .string (⟨#[]⟩ : ByteArray)] Tryd.underlying106 ?_
    exact ⟨qR, qB⟩
   replace c10 := Bool.eq_false_iff.mpr c10
   subst c10
   rw [if_neg (show ¬ (false = true) by decide)] at H
   by_cases c14 : a2 = true
   ·subst c14
    rw [if_pos rfl] at H
    by_cases c15 : a1 = 0
    ·rw [if_pos c15] at H; exact absurd H (by simp)
    rw [if_neg c15] at H
    have c15b0 := beq_eq_false_iff_ne.mpr c15
    have c15b1 := bne_iff_ne.mpr c15
    simp only [Option.some.injEq, Prod.mk.injEq] at H
    obtain ⟨rfl, rfl, rfl, rfl⟩ := H
    obtain ⟨_, _, _, _, _, _⟩ := cells3 BK1196.out
    go_wp2
    refine rct gb1196 106 #[.int .i64 1, .int .i64 (wrap64 (a0 - (wrap64 ((wrap64 (Int.tdiv a0 a1)) * a1)))), .string (⟨#[]⟩ : ByteArray)] Tryd.underlying106 ?_
    exact ⟨qR, qB⟩
   replace c14 := Bool.eq_false_iff.mpr c14
   subst c14
   rw [if_neg (show ¬ (false = true) by decide)] at H
   by_cases c17 : a1 = 0
   ·rw [if_pos c17] at H
    exact absurd H (by simp)
   rw [if_neg c17] at H
   have c17b0 := beq_eq_false_iff_ne.mpr c17
   have c17b1 := bne_iff_ne.mpr c17
   simp only [Option.some.injEq, Prod.mk.injEq] at H
   obtain ⟨rfl, rfl, rfl, rfl⟩ := H
   obtain ⟨_, _, _, _, _, _⟩ := cells3 BK1196.out
   go_wp2
   refine rct gb1196 106 #[.int .i64 1, .int .i64 (wrap64 (Int.tdiv a0 a1)), .string (⟨#[]⟩ : ByteArray)] Tryd.underlying106 ?_
   exact ⟨qR, qB⟩
mutual
def whirligigref01_before.l0 : Nat → Int → Int → Int → ByteArray → Int → Int → ByteArray → Option (Bool)
 | 0, _, _, _, _, _, _, _ => none
 | k + 1, x5, x1198000, x1198001, x1198002, x1199000, x1199001, x1199002 => if x5 < (x1198002.size : Int) then (whirligigref01_before.j1 k x5 (decide (x5 < (x1199002.size : Int))) x1198000 x1198001 x1198002 x1199000 x1199001 x1199002) else (whirligigref01_before.j1 k x5 false x1198000 x1198001 x1198002 x1199000 x1199001 x1199002)
def whirligigref01_before.j1 : Nat → Int → Bool → Int → Int → ByteArray → Int → Int → ByteArray → Option (Bool)
 | 0, _, _, _, _, _, _, _, _ => none
 | k + 1, x5, x25, x1198000, x1198001, x1198002, x1199000, x1199001, x1199002 => if x25 = true then (if 0 ≤ x5 then (if x5 < (x1198002.size : Int) then (if x5 < (x1199002.size : Int) then (if (bt x1198002 x5) = (bt x1199002 x5) then (whirligigref01_before.l0 k (wrap64 (x5 + 1)) x1198000 x1198001 x1198002 x1199000 x1199001 x1199002) else (some (decide ((bt x1198002 x5) < (bt x1199002 x5))))) else (none)) else (none)) else (none)) else (some (decide ((x1198002.size : Int) < (x1199002.size : Int))))
end
def whirligigref01_before.f (k : Nat) (a0_0 : Int) (a0_1 : Int) (a0_2 : ByteArray) (a1_0 : Int) (a1_1 : Int) (a1_2 : ByteArray) : Option (Bool) := if a0_0 = 3 then (whirligigref01_before.l0 k 0 a0_0 a0_1 a0_2 a1_0 a1_1 a1_2) else (some (decide (a0_1 < a1_1)))
set_option maxHeartbeats 8000000 in
set_option maxRecDepth 100000 in
theorem whirligigref01_before.calls (k : Nat) (a0_0 : Int) (a0_1 : Int) (a0_2 : ByteArray) (a1_0 : Int) (a1_1 : Int) (a1_2 : ByteArray) (r : Bool) (w : World) (h : whirligigref01_before.f k a0_0 a0_1 a0_2 a1_0 a1_1 a1_2 = some r) :
  Calls Tryd.prog 130 #[.agg #[.int .i64 a0_0, .int .i64 a0_1, .string a0_2], .agg #[.int .i64 a1_0, .int .i64 a1_1, .string a1_2]] w fun e w' => e = .returned (.bool r) ∧ Below w.heap.size w w' := by
 have hu106 := Tryd.underlying106
 have HB := Aside0.mk (Below.refl w.heap.size w)
 have H : (if a0_0 = 3 then (whirligigref01_before.l0 k 0 a0_0 a0_1 a0_2 a1_0 a1_1 a1_2) else (some (decide (a0_1 < a1_1)))) = some r := h
 clear h
 by_cases c3 : a0_0 = 3
 ·rw [if_pos c3] at H
  have c3b0 := beq_iff_eq.mpr c3
  have c3b1 := bne_eq_false_iff_eq.mpr c3
  clear c3
  have H' := Aside0.mk H
  clear H
  go_enter Tryd.func130, Tryd.ntmps130
  go_wp2_with (first | ((with_reducible refine gate_dst (N := 2) rfl ?_); (try (refine gate_guard (by rfl) ?_; dsimp only)); refine box_event ?hg (N := 2) ?hd (cs := #[.int .i64 a0_0, .int .i64 a0_1, .string a0_2]) (t := 106) ?hr ?_; (case hd => rfl); (case hg => rfl); (case hr => first | (go_simp; done) | (go_simp; rfl)); intro gb1197 hg w4 hbox hb; have BK1197 := Aside0.mk (hbox); have GW1197 := geS hg; have GE1197 := geS hg; replace HB := bst hb; clear hb hbox hg) | ((with_reducible refine gate_dst (N := 3) rfl ?_); (try (refine gate_guard (by rfl) ?_; dsimp only)); refine box_event ?hg (N := 3) ?hd (cs := #[.int .i64 a1_0, .int .i64 a1_1, .string a1_2]) (t := 106) ?hr ?_; (case hd => rfl); (case hg => rfl); (case hr => first | (go_simp; done) | (go_simp; rfl)); intro gb1198 hg w5 hbox hb; have BK1198 := Aside0.mk (hbox); have GW1198 := geS hg; have GE1198 := geS hg; have NB1197_1198 := neS gb1197 hg; have NB1198_1197 := neT gb1197 hg; replace BK1197 := kb gb1197 hb; replace HB := bst hb; clear hb hbox hg; have := NB1197_1198.out; have := NB1198_1197.out; obtain ⟨_, _, _, _, _, _⟩ := cells3 BK1197.out))
  repeat (go_quiet (first | ((with_reducible refine gate_dst (N := 2) rfl ?_); (try (refine gate_guard (by rfl) ?_; dsimp only)); refine box_event ?hg (N := 2) ?hd (cs := #[.int .i64 a0_0, .int .i64 a0_1, .string a0_2]) (t := 106) ?hr ?_; (case hd => rfl); (case hg => rfl); (case hr => first | (go_simp; done) | (go_simp; rfl)); intro gb1197 hg w4 hbox hb; have BK1197 := Aside0.mk (hbox); have GW1197 := geS hg; have GE1197 := geS hg; replace HB := bst hb; clear hb hbox hg) | ((with_reducible refine gate_dst (N := 3) rfl ?_); (try (refine gate_guard (by rfl) ?_; dsimp only)); refine box_event ?hg (N := 3) ?hd (cs := #[.int .i64 a1_0, .int .i64 a1_1, .string a1_2]) (t := 106) ?hr ?_; (case hd => rfl); (case hg => rfl); (case hr => first | (go_simp; done) | (go_simp; rfl)); intro gb1198 hg w5 hbox hb; have BK1198 := Aside0.mk (hbox); have GW1198 := geS hg; have GE1198 := geS hg; have NB1197_1198 := neS gb1197 hg; have NB1198_1197 := neT gb1197 hg; replace BK1197 := kb gb1197 hb; replace HB := bst hb; clear hb hbox hg; have := NB1197_1198.out; have := NB1198_1197.out; obtain ⟨_, _, _, _, _, _⟩ := cells3 BK1197.out)); try go_wp2_with (first | ((with_reducible refine gate_dst (N := 2) rfl ?_); (try (refine gate_guard (by rfl) ?_; dsimp only)); refine box_event ?hg (N := 2) ?hd (cs := #[.int .i64 a0_0, .int .i64 a0_1, .string a0_2]) (t := 106) ?hr ?_; (case hd => rfl); (case hg => rfl); (case hr => first | (go_simp; done) | (go_simp; rfl)); intro gb1197 hg w4 hbox hb; have BK1197 := Aside0.mk (hbox); have GW1197 := geS hg; have GE1197 := geS hg; replace HB := bst hb; clear hb hbox hg) | ((with_reducible refine gate_dst (N := 3) rfl ?_); (try (refine gate_guard (by rfl) ?_; dsimp only)); refine box_event ?hg (N := 3) ?hd (cs := #[.int .i64 a1_0, .int .i64 a1_1, .string a1_2]) (t := 106) ?hr ?_; (case hd => rfl); (case hg => rfl); (case hr => first | (go_simp; done) | (go_simp; rfl)); intro gb1198 hg w5 hbox hb; have BK1198 := Aside0.mk (hbox); have GW1198 := geS hg; have GE1198 := geS hg; have NB1197_1198 := neS gb1197 hg; have NB1198_1197 := neT gb1197 hg; replace BK1197 := kb gb1197 hb; replace HB := bst hb; clear hb hbox hg; have := NB1197_1198.out; have := NB1198_1197.out; obtain ⟨_, _, _, _, _, _⟩ := cells3 BK1197.out)))
  go_loopg [5] k (fun kq v5 w' => ∃ (x5_1 : Int), v5 = .int .i64 x5_1 ∧ Aside0 (whirligigref01_before.l0 kq x5_1 a0_0 a0_1 a0_2 a1_0 a1_1 a1_2 = some r) ∧ Aside0 (kq ≤ k) ∧ Aside0 (w'.heap[gb1197]? = some (.cells #[.int .i64 a0_0, .int .i64 a0_1, .string a0_2] 106 (0, 0))) ∧ Aside0 (w'.heap[gb1198]? = some (.cells #[.int .i64 a1_0, .int .i64 a1_1, .string a1_2] 106 (0, 0))) ∧ Aside0 (Below w.heap.size w w'))
  case atStart => exact ⟨(0), qE, H', ⟨Nat.le_refl _⟩, ⟨qK⟩, ⟨qK⟩, ⟨qB⟩⟩
  case round =>
   clear H'
   try clear p2
   obtain ⟨x5_1, rfl, HA, HK1, BK1197, BK1198, HB⟩ := hrel
   cases gk with
   | zero => exact absurd HA.out (by simp [whirligigref01_before.l0])
   | succ k1 =>
    have H := HA.out
    clear HA
    simp only [whirligigref01_before.l0] at H
    have HC8 := Aside0.mk H
    clear H
    go_upto_region 4 with (fail)
    repeat (go_quiet (fail); go_upto_region 4 with (fail))
    go_cut [25] (fun v25 wc => ∃ (kq : Nat) (x25_7 : Bool), v25 = .bool x25_7 ∧ Aside0 (whirligigref01_before.j1 kq x5_1 x25_7 a0_0 a0_1 a0_2 a1_0 a1_1 a1_2 = some r) ∧ Aside0 (kq ≤ k1) ∧ Aside0 (wc.heap[gb1197]? = some (.cells #[.int .i64 a0_0, .int .i64 a0_1, .string a0_2] 106 (0, 0))) ∧ Aside0 (wc.heap[gb1198]? = some (.cells #[.int .i64 a1_0, .int .i64 a1_1, .string a1_2] 106 (0, 0))) ∧ Aside0 (Below w.heap.size w wc))
    case first =>
     have H := HC8.out; clear HC8; replace H := iD H
     rcases H with ⟨c9b0, H⟩ | ⟨c9b0, H⟩
     ·(first | rw [c9b0] | (simp only [i64_w, i32_w]; rw [c9b0]) | skip); have H' := Aside0.mk H; clear H; have := NB1197_1198.out; have := NB1198_1197.out; obtain ⟨_, _, _, _, _, _⟩ := cells3 BK1197.out; obtain ⟨_, _, _, _, _, _⟩ := cells3 BK1198.out
      go_wp2
      repeat (go_quiet (fail); try go_wp2)
      go_meet
      case rel => exact ⟨_, (decide (x5_1 < (a1_2.size : Int))), qE, H', ⟨by have := HK1.out; first | omega | exact Nat.le_refl _⟩, ⟨qK⟩, ⟨qK⟩, ⟨qB⟩⟩
     (first | rw [c9b0] | (simp only [i64_w, i32_w]; rw [c9b0]) | skip); have H' := Aside0.mk H; clear H; have := NB1197_1198.out; have := NB1198_1197.out; obtain ⟨_, _, _, _, _, _⟩ := cells3 BK1197.out
     go_wp2
     repeat (go_quiet (fail); try go_wp2)
     go_meet
     case rel => exact ⟨_, (false), qE, H', ⟨by have := HK1.out; first | omega | exact Nat.le_refl _⟩, ⟨qK⟩, ⟨qK⟩, ⟨qB⟩⟩
    case rest =>
     clear HC8
     try clear p2 p2
     obtain ⟨kq, x25_7, rfl, HA, HJ7, BK1197, BK1198, HB⟩ := hcut; cases kq with
     | zero => exact absurd HA.out (by simp [whirligigref01_before.j1])
     | succ kj7 =>
      have H := HA.out; clear HA; simp only [whirligigref01_before.j1] at H
      by_cases c15 : x25_7 = true
      ·subst c15; rw [if_pos rfl] at H; replace H := iD H
       rcases H with ⟨c16b0, H⟩ | ⟨c16b0, H⟩
       ·by_cases c17 : x5_1 < (a0_2.size : Int)
        ·rw [if_pos c17] at H; have c17b0 := decide_eq_true c17; clear c17; replace H := iD H
         rcases H with ⟨c19b0, H⟩ | ⟨c19b0, H⟩
         ·by_cases c21 : (bt a0_2 x5_1) = (bt a1_2 x5_1)
          ·rw [if_pos c21] at H; have c21b0 := beq_iff_eq.mpr c21; have c21b1 := bne_eq_false_iff_eq.mpr c21; clear c21; have H' := Aside0.mk H; clear H; have := NB1197_1198.out; have := NB1198_1197.out; obtain ⟨_, _, _, _, _, _⟩ := cells3 BK1197.out; have p18 : 0 ≤ (x5_1 : Int) := qD; have q18 : x5_1 < (a0_2.size : Int) := qD; have hx18 := bt_at a0_2 x5_1; replace p18 := eq_true p18; replace q18 := eq_true q18; obtain ⟨_, _, _, _, _, _⟩ := cells3 BK1198.out; have p20 : 0 ≤ (x5_1 : Int) := qD; have q20 : x5_1 < (a1_2.size : Int) := qD; have hx20 := bt_at a1_2 x5_1; replace p20 := eq_true p20; replace q20 := eq_true q20
           go_wp2
           repeat (go_quiet (fail); try go_wp2)
           go_roundg kj7
           case measure => have := HK1.out; have := HJ7.out; omega
           case rel => exact ⟨(wrap64 (x5_1 + 1)), qE, H', ⟨by have := HK1.out; have := HJ7.out; omega⟩, ⟨qK⟩, ⟨qK⟩, ⟨qB⟩⟩
          rw [if_neg c21] at H; have c21b0 := beq_eq_false_iff_ne.mpr c21; have c21b1 := bne_iff_ne.mpr c21; obtain rfl := Option.some.inj H; have := NB1197_1198.out; have := NB1198_1197.out; obtain ⟨_, _, _, _, _, _⟩ := cells3 BK1197.out; have p18 : 0 ≤ (x5_1 : Int) := qD; have q18 : x5_1 < (a0_2.size : Int) := qD; have hx18 := bt_at a0_2 x5_1; replace p18 := eq_true p18; replace q18 := eq_true q18; obtain ⟨_, _, _, _, _, _⟩ := cells3 BK1198.out; have p20 : 0 ≤ (x5_1 : Int) := qD; have q20 : x5_1 < (a1_2.size : Int) := qD; have hx20 := bt_at a1_2 x5_1; replace p20 := eq_true p20; replace q20 := eq_true q20; have p25 : 0 ≤ (x5_1 : Int) := qD; have q25 : x5_1 < (a0_2.size : Int) := qD; have hx25 := bt_at a0_2 x5_1; replace p25 := eq_true p25; replace q25 := eq_true q25; have p26 : 0 ≤ (x5_1 : Int) := qD; have q26 : x5_1 < (a1_2.size : Int) := qD; have hx26 := bt_at a1_2 x5_1; replace p26 := eq_true p26; replace q26 := eq_true q26
          go_wp2
          repeat (go_quiet (fail); try go_wp2)
          go_ret; exact ⟨qR, qB⟩
         exact absurd H (by simp)
        rw [if_neg c17] at H; exact absurd H (by simp)
       exact absurd H (by simp)
      replace c15 := Bool.eq_false_iff.mpr c15; subst c15; rw [if_neg (show ¬ (false = true) by decide)] at H; obtain rfl := Option.some.inj H; have := NB1197_1198.out; have := NB1198_1197.out; obtain ⟨_, _, _, _, _, _⟩ := cells3 BK1197.out; obtain ⟨_, _, _, _, _, _⟩ := cells3 BK1198.out
      go_wp2
      repeat (go_quiet (fail); try go_wp2)
      go_ret; exact ⟨qR, qB⟩
 rw [if_neg c3] at H
 have c3b0 := beq_eq_false_iff_ne.mpr c3
 have c3b1 := bne_iff_ne.mpr c3
 obtain rfl := Option.some.inj H
 go_enter Tryd.func130, Tryd.ntmps130
 go_wp2_with (first | ((with_reducible refine gate_dst (N := 2) rfl ?_); (try (refine gate_guard (by rfl) ?_; dsimp only)); refine box_event ?hg (N := 2) ?hd (cs := #[.int .i64 a0_0, .int .i64 a0_1, .string a0_2]) (t := 106) ?hr ?_; (case hd => rfl); (case hg => rfl); (case hr => first | (go_simp; done) | (go_simp; rfl)); intro gb1197 hg w33 hbox hb; have BK1197 := Aside0.mk (hbox); have GW1197 := geS hg; have GE1197 := geS hg; replace HB := bst hb; clear hb hbox hg) | ((with_reducible refine gate_dst (N := 3) rfl ?_); (try (refine gate_guard (by rfl) ?_; dsimp only)); refine box_event ?hg (N := 3) ?hd (cs := #[.int .i64 a1_0, .int .i64 a1_1, .string a1_2]) (t := 106) ?hr ?_; (case hd => rfl); (case hg => rfl); (case hr => first | (go_simp; done) | (go_simp; rfl)); intro gb1198 hg w34 hbox hb; have BK1198 := Aside0.mk (hbox); have GW1198 := geS hg; have GE1198 := geS hg; have NB1197_1198 := neS gb1197 hg; have NB1198_1197 := neT gb1197 hg; replace BK1197 := kb gb1197 hb; replace HB := bst hb; clear hb hbox hg; have := NB1197_1198.out; have := NB1198_1197.out; obtain ⟨_, _, _, _, _, _⟩ := cells3 BK1197.out; obtain ⟨_, _, _, _, _, _⟩ := cells3 BK1198.out))
 repeat (go_quiet (first | ((with_reducible refine gate_dst (N := 2) rfl ?_); (try (refine gate_guard (by rfl) ?_; dsimp only)); refine box_event ?hg (N := 2) ?hd (cs := #[.int .i64 a0_0, .int .i64 a0_1, .string a0_2]) (t := 106) ?hr ?_; (case hd => rfl); (case hg => rfl); (case hr => first | (go_simp; done) | (go_simp; rfl)); intro gb1197 hg w33 hbox hb; have BK1197 := Aside0.mk (hbox); have GW1197 := geS hg; have GE1197 := geS hg; replace HB := bst hb; clear hb hbox hg) | ((with_reducible refine gate_dst (N := 3) rfl ?_); (try (refine gate_guard (by rfl) ?_; dsimp only)); refine box_event ?hg (N := 3) ?hd (cs := #[.int .i64 a1_0, .int .i64 a1_1, .string a1_2]) (t := 106) ?hr ?_; (case hd => rfl); (case hg => rfl); (case hr => first | (go_simp; done) | (go_simp; rfl)); intro gb1198 hg w34 hbox hb; have BK1198 := Aside0.mk (hbox); have GW1198 := geS hg; have GE1198 := geS hg; have NB1197_1198 := neS gb1197 hg; have NB1198_1197 := neT gb1197 hg; replace BK1197 := kb gb1197 hb; replace HB := bst hb; clear hb hbox hg; have := NB1197_1198.out; have := NB1198_1197.out; obtain ⟨_, _, _, _, _, _⟩ := cells3 BK1197.out; obtain ⟨_, _, _, _, _, _⟩ := cells3 BK1198.out)); try go_wp2_with (first | ((with_reducible refine gate_dst (N := 2) rfl ?_); (try (refine gate_guard (by rfl) ?_; dsimp only)); refine box_event ?hg (N := 2) ?hd (cs := #[.int .i64 a0_0, .int .i64 a0_1, .string a0_2]) (t := 106) ?hr ?_; (case hd => rfl); (case hg => rfl); (case hr => first | (go_simp; done) | (go_simp; rfl)); intro gb1197 hg w33 hbox hb; have BK1197 := Aside0.mk (hbox); have GW1197 := geS hg; have GE1197 := geS hg; replace HB := bst hb; clear hb hbox hg) | ((with_reducible refine gate_dst (N := 3) rfl ?_); (try (refine gate_guard (by rfl) ?_; dsimp only)); refine box_event ?hg (N := 3) ?hd (cs := #[.int .i64 a1_0, .int .i64 a1_1, .string a1_2]) (t := 106) ?hr ?_; (case hd => rfl); (case hg => rfl); (case hr => first | (go_simp; done) | (go_simp; rfl)); intro gb1198 hg w34 hbox hb; have BK1198 := Aside0.mk (hbox); have GW1198 := geS hg; have GE1198 := geS hg; have NB1197_1198 := neS gb1197 hg; have NB1198_1197 := neT gb1197 hg; replace BK1197 := kb gb1197 hb; replace HB := bst hb; clear hb hbox hg; have := NB1197_1198.out; have := NB1198_1197.out; obtain ⟨_, _, _, _, _, _⟩ := cells3 BK1197.out; obtain ⟨_, _, _, _, _, _⟩ := cells3 BK1198.out)))
 go_ret
 exact ⟨qR, qB⟩
end Go.Proofs.YtbngfhlciebeeaaDoor.L
end
