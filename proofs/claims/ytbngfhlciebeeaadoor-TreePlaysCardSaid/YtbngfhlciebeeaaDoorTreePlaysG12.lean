/- Printed and hand-written steps towards the row (TreePlays), those that it reaches. -/
import Derived.Test.YtbngfhlciebeeaaDoorTreePlaysG4
import Derived.Test.YtbngfhlciebeeaaDoorTreePlaysG5
import Derived.Test.YtbngfhlciebeeaaDoorTreePlaysG10
import Derived.Test.YtbngfhlciebeeaaDoorTreePlaysG11
section
namespace Go.Proofs.YtbngfhlciebeeaaDoor.L
open Go.RowKit Go.Proofs.YtbngfhlciebeeaaDoorW.PrintWords Go.Proofs.YtbngfhlciebeeaaDoorW.PrintLast Go.Proofs.YtbngfhlciebeeaaDoorW.PrintMore
attribute [local go_sem] max2_int min2_int max_two min_two max_three min_three max_four min_four   -- for this text's walks alone
set_option linter.unusedVariables false
set_option linter.unusedSimpArgs false
def whirligigref02_Token.j0 : Nat → ByteArray → Int → Int → Bool → Option (Int × ByteArray × Int × Int × Int × Int)
 | 0, _, _, _, _ => none
 | k + 1, x0, x1, x7, x24 => if x24 = true then ((whirligigref02_number.f k x0 x1).bind fun bt194 => (some (bt194.1, bt194.2.1, bt194.2.2.1, bt194.2.2.2.1, bt194.2.2.2.2.1, bt194.2.2.2.2.2))) else (if x7 = 39 then ((whirligigref02_quote.f k x0 x1).bind fun bt200 => (some (bt200.1, bt200.2.1, bt200.2.2.1, bt200.2.2.2.1, bt200.2.2.2.2.1, bt200.2.2.2.2.2))) else ((whirligigref02_sign.f k x0 x1).bind fun bt206 => (some (bt206.1, bt206.2.1, bt206.2.2.1, bt206.2.2.2.1, bt206.2.2.2.2.1, bt206.2.2.2.2.2))))
def whirligigref02_Token.f (k : Nat) (a0 : ByteArray) (a1 : Int) : Option (Int × ByteArray × Int × Int × Int × Int) := if 0 ≤ a1 then (if a1 < (a0.size : Int) then ((whirligigref02_letter.f (bt a0 a1)).bind fun t187 => (if t187 = true then ((whirligigref02_path.f k a0 a1).bind fun bt188 => (some (bt188.1, bt188.2.1, bt188.2.2.1, bt188.2.2.2.1, bt188.2.2.2.2.1, bt188.2.2.2.2.2))) else (if (bt a0 a1) ≥ 48 then (whirligigref02_Token.j0 k a0 a1 (bt a0 a1) (decide ((bt a0 a1) ≤ 57))) else (whirligigref02_Token.j0 k a0 a1 (bt a0 a1) false)))) else (none)) else (none)
set_option maxHeartbeats 8000000 in
set_option maxRecDepth 100000 in
theorem whirligigref02_Token.calls (k : Nat) (a0 : ByteArray) (a1 : Int) (r1 : Int) (r2 : ByteArray) (r3 : Int) (r4 : Int) (r5 : Int) (r6 : Int) (w : World) (h : whirligigref02_Token.f k a0 a1 = some (r1, r2, r3, r4, r5, r6)) :
  Calls Tryd.prog 70 #[.string a0, .int .i64 a1] w fun e w' => e = .returned (.tuple #[.agg #[.int .i64 r1, .string r2, .int .i64 r3, .int .i64 r4], .int .i64 r5, .int .i64 r6]) ∧ Below w.heap.size w w' := by
 have hu31 := Tryd.underlying31
 have HB := Aside0.mk (Below.refl w.heap.size w)
 have H : (if 0 ≤ a1 then (if a1 < (a0.size : Int) then ((whirligigref02_letter.f (bt a0 a1)).bind fun t187 => (if t187 = true then ((whirligigref02_path.f k a0 a1).bind fun bt188 => (some (bt188.1, bt188.2.1, bt188.2.2.1, bt188.2.2.2.1, bt188.2.2.2.2.1, bt188.2.2.2.2.2))) else (if (bt a0 a1) ≥ 48 then (whirligigref02_Token.j0 k a0 a1 (bt a0 a1) (decide ((bt a0 a1) ≤ 57))) else (whirligigref02_Token.j0 k a0 a1 (bt a0 a1) false)))) else (none)) else (none)) = some (r1, r2, r3, r4, r5, r6) := h
 clear h
 by_cases c3 : 0 ≤ a1
 ·rw [if_pos c3] at H
  have c3b0 := decide_eq_true c3
  clear c3
  by_cases c4 : a1 < (a0.size : Int)
  ·rw [if_pos c4] at H
   have c4b0 := decide_eq_true c4
   clear c4
   replace H := Option.bind_eq_some_iff.mp H
   obtain ⟨t187, A60, H⟩ := H
   (try dsimp -simprocs only at H)
   have A6 := Aside0.mk A60
   clear A60
   by_cases c7 : t187 = true
   ·subst c7
    rw [if_pos rfl] at H
    replace H := Option.bind_eq_some_iff.mp H
    obtain ⟨⟨t188, t189, t190, t191, t192, t193⟩, A80, H⟩ := H
    (try dsimp -simprocs only at H)
    have A8 := Aside0.mk A80
    clear A80
    simp only [Option.some.injEq, Prod.mk.injEq] at H
    obtain ⟨rfl, rfl, rfl, rfl, rfl, rfl⟩ := H
    go_enter Tryd.func70, Tryd.ntmps70
    go_wp2_with (first | ((with_reducible refine gd 4 rfl ?_); refine bxx 4 #[.int .i64 0, .string (⟨#[]⟩ : ByteArray), .int .i64 0, .int .i64 0] 31 ?_; intro gb186 w9 BK186 GW186 HB; have p5 : 0 ≤ (a1 : Int) := qD; have q5 : a1 < (a0.size : Int) := qD; have hx5 := bt_at a0 a1; replace p5 := eq_true p5; replace q5 := eq_true q5) | ((with_reducible refine gc 108 rfl ?_); refine gl (some 12) #[.int .u8 (bt a0 a1)] Tryd.func108 ?_; (with_reducible refine (whirligigref02_letter.calls (bt a0 a1) true _ A6.out).mono ?_); rintro e w' ⟨rfl, ⟨nd, rfl⟩⟩; refine ⟨_, rfl, ?_⟩; (try (rw [drewN_self w9]; generalize hq_ : World.drewN w9 _ = w9; have n0_ : Aside0 (w9.heap[gb186]? = some (.cells #[.int .i64 0, .string (⟨#[]⟩ : ByteArray), .int .i64 0, .int .i64 0] 31 (0, 0))) := ⟨by rw [← hq_]; exact qK⟩; have n1_ : Aside0 (Below w.heap.size w w9) := ⟨by rw [← hq_]; exact qB⟩; clear BK186 HB hq_; have BK186 := n0_; have HB := n1_; clear n0_ n1_))) | ((with_reducible refine gc 109 rfl ?_); refine gl (some 15) #[.string a0, .int .i64 a1] Tryd.func109 ?_; (with_reducible refine (whirligigref02_path.calls k a0 a1 t188 t189 t190 t191 t192 t193 _ A8.out).mono ?_); rintro e w10 ⟨rfl, hb⟩; refine ⟨_, rfl, ?_⟩; replace BK186 := kb gb186 hb; replace HB := bst hb; (try clear hb); obtain ⟨_, _, _, _, _, _, _, _⟩ := cells4 BK186.out))
    refine bodyPost_ret (results_ctt rfl _ _ gb186 31 #[.int .i64 t188, .string t189, .int .i64 t190, .int .i64 t191] (0, 0) _ rfl qP Tryd.underlying31 rfl (by kernel_rfl)) rfl ?_
    exact ⟨qR, qB⟩
   replace c7 := Bool.eq_false_iff.mpr c7
   subst c7
   rw [if_neg (show ¬ (false = true) by decide)] at H
   have HC12 := Aside0.mk H
   clear H
   go_enter Tryd.func70, Tryd.ntmps70
   go_upto_region 4 with (first | ((with_reducible refine gd 4 rfl ?_); refine bxx 4 #[.int .i64 0, .string (⟨#[]⟩ : ByteArray), .int .i64 0, .int .i64 0] 31 ?_; intro gb186 w13 BK186 GW186 HB; have p5 : 0 ≤ (a1 : Int) := qD; have q5 : a1 < (a0.size : Int) := qD; have hx5 := bt_at a0 a1; replace p5 := eq_true p5; replace q5 := eq_true q5) | ((with_reducible refine gc 108 rfl ?_); refine gl (some 12) #[.int .u8 (bt a0 a1)] Tryd.func108 ?_; (with_reducible refine (whirligigref02_letter.calls (bt a0 a1) false _ A6.out).mono ?_); rintro e w' ⟨rfl, ⟨nd, rfl⟩⟩; refine ⟨_, rfl, ?_⟩))
   (try simp only [Act.put, List.setIfInBounds_toArray, List.set_cons_zero, List.set_cons_succ])
   go_cut [24] (fun v24 wc => ∃ (kq : Nat) (x24_11 : Bool), v24 = .bool x24_11 ∧ Aside0 (whirligigref02_Token.j0 kq a0 a1 (bt a0 a1) x24_11 = some (r1, r2, r3, r4, r5, r6)) ∧ Aside0 (kq ≤ k) ∧ Aside0 (wc.heap[gb186]? = some (.cells #[.int .i64 0, .string (⟨#[]⟩ : ByteArray), .int .i64 0, .int .i64 0] 31 (0, 0))) ∧ Aside0 (Below w.heap.size w wc))
   case first =>
    have H := HC12.out
    clear HC12
    replace H := iD H
    rcases H with ⟨c14b0, H⟩ | ⟨c14b0, H⟩
    ·(first | rw [c14b0] | (simp only [i64_w, i32_w]; rw [c14b0]) | skip); have H' := Aside0.mk H; clear H
     go_wp2
     go_meet
     case rel => exact ⟨_, (decide ((bt a0 a1) ≤ 57)), qE, H', ⟨by first | omega | exact Nat.le_refl _⟩, ⟨qK⟩, ⟨qB⟩⟩
    (first | rw [c14b0] | (simp only [i64_w, i32_w]; rw [c14b0]) | skip)
    have H' := Aside0.mk H
    clear H
    go_wp2
    go_meet
    case rel => exact ⟨_, (false), qE, H', ⟨by first | omega | exact Nat.le_refl _⟩, ⟨qK⟩, ⟨qB⟩⟩
   case rest =>
    clear HC12
    try clear p2
    try clear p5 p5
    try clear q5 q5
    try clear hx5
    obtain ⟨kq, x24_11, rfl, HA, HJ11, BK186, HB⟩ := hcut
    cases kq with
    | zero => exact absurd HA.out (by simp [whirligigref02_Token.j0])
    | succ kj11 =>
     have H := HA.out; clear HA; simp only [whirligigref02_Token.j0] at H
     by_cases c15 : x24_11 = true
     ·subst c15; rw [if_pos rfl] at H; replace H := Option.bind_eq_some_iff.mp H; obtain ⟨⟨t194, t195, t196, t197, t198, t199⟩, A160, H⟩ := H; (try dsimp -simprocs only at H); have A16 := Aside0.mk A160; clear A160; simp only [Option.some.injEq, Prod.mk.injEq] at H; obtain ⟨rfl, rfl, rfl, rfl, rfl, rfl⟩ := H
      go_wp2_with (first | ((with_reducible refine gc 110 rfl ?_); refine gl (some 27) #[.string a0, .int .i64 a1] Tryd.func110 ?_; (with_reducible refine (whirligigref02_number.calls kj11 a0 a1 t194 t195 t196 t197 t198 t199 _ A16.out).mono ?_); rintro e w17 ⟨rfl, hb⟩; refine ⟨_, rfl, ?_⟩; replace BK186 := kb gb186 hb; replace HB := bst hb; (try clear hb); obtain ⟨_, _, _, _, _, _, _, _⟩ := cells4 BK186.out))
      refine bodyPost_ret (results_ctt rfl _ _ gb186 31 #[.int .i64 t194, .string t195, .int .i64 t196, .int .i64 t197] (0, 0) _ rfl qP Tryd.underlying31 rfl (by kernel_rfl)) rfl ?_; exact ⟨qR, qB⟩
     replace c15 := Bool.eq_false_iff.mpr c15; subst c15; rw [if_neg (show ¬ (false = true) by decide)] at H
     by_cases c19 : (bt a0 a1) = 39
     ·rw [if_pos c19] at H; have c19b0 := beq_iff_eq.mpr c19; have c19b1 := bne_eq_false_iff_eq.mpr c19; clear c19; replace H := Option.bind_eq_some_iff.mp H; obtain ⟨⟨t200, t201, t202, t203, t204, t205⟩, A200, H⟩ := H; (try dsimp -simprocs only at H); have A20 := Aside0.mk A200; clear A200; simp only [Option.some.injEq, Prod.mk.injEq] at H; obtain ⟨rfl, rfl, rfl, rfl, rfl, rfl⟩ := H
      go_wp2_with (first | ((with_reducible refine gc 111 rfl ?_); refine gl (some 35) #[.string a0, .int .i64 a1] Tryd.func111 ?_; (with_reducible refine (whirligigref02_quote.calls kj11 a0 a1 t200 t201 t202 t203 t204 t205 _ A20.out).mono ?_); rintro e w21 ⟨rfl, hb⟩; refine ⟨_, rfl, ?_⟩; replace BK186 := kb gb186 hb; replace HB := bst hb; (try clear hb); obtain ⟨_, _, _, _, _, _, _, _⟩ := cells4 BK186.out))
      refine bodyPost_ret (results_ctt rfl _ _ gb186 31 #[.int .i64 t200, .string t201, .int .i64 t202, .int .i64 t203] (0, 0) _ rfl qP Tryd.underlying31 rfl (by kernel_rfl)) rfl ?_; exact ⟨qR, qB⟩
     rw [if_neg c19] at H; have c19b0 := beq_eq_false_iff_ne.mpr c19; have c19b1 := bne_iff_ne.mpr c19; replace H := Option.bind_eq_some_iff.mp H; obtain ⟨⟨t206, t207, t208, t209, t210, t211⟩, A230, H⟩ := H; (try dsimp -simprocs only at H); have A23 := Aside0.mk A230; clear A230; simp only [Option.some.injEq, Prod.mk.injEq] at H; obtain ⟨rfl, rfl, rfl, rfl, rfl, rfl⟩ := H
     go_wp2_with (first | ((with_reducible refine gc 112 rfl ?_); refine gl (some 41) #[.string a0, .int .i64 a1] Tryd.func112 ?_; (with_reducible refine (whirligigref02_sign.calls kj11 a0 a1 t206 t207 t208 t209 t210 t211 _ A23.out).mono ?_); rintro e w24 ⟨rfl, hb⟩; refine ⟨_, rfl, ?_⟩; replace BK186 := kb gb186 hb; replace HB := bst hb; (try clear hb); obtain ⟨_, _, _, _, _, _, _, _⟩ := cells4 BK186.out))
     refine bodyPost_ret (results_ctt rfl _ _ gb186 31 #[.int .i64 t206, .string t207, .int .i64 t208, .int .i64 t209] (0, 0) _ rfl qP Tryd.underlying31 rfl (by kernel_rfl)) rfl ?_; exact ⟨qR, qB⟩
  rw [if_neg c4] at H
  exact absurd H (by simp)
 rw [if_neg c3] at H
 exact absurd H (by simp)
def whirligigref02_Lex.l0 : Nat → ByteArray → List (S31) → Int → Option ((List (S31)) × Int × Int)
 | 0, _, _, _ => none
 | k + 1, x0, x5, x6 => if x6 < (x0.size : Int) then (if 0 ≤ x6 then (if (bt x0 x6) = 32 then (whirligigref02_Lex.l0 k x0 x5 (wrap64 (x6 + 1))) else (if (x5.length : Int) = 120 then (some (([] : List (S31)), 13, x6)) else ((whirligigref02_Token.f k x0 x6).bind fun bt212 => (if bt212.2.2.2.2.2 = 0 then (if x5.length < 3518437208883 then (whirligigref02_Lex.l0 k x0 (x5 ++ [(⟨bt212.1, bt212.2.1, bt212.2.2.1, bt212.2.2.2.1⟩ : S31)]) bt212.2.2.2.2.1) else (none)) else (some (([] : List (S31)), bt212.2.2.2.2.2, x6)))))) else (none)) else (some (x5, 0, 0))
def whirligigref02_Lex.f (k : Nat) (a0 : ByteArray) : Option ((List (S31)) × Int × Int) := whirligigref02_Lex.l0 k a0 ([] : List (S31)) 0
set_option maxHeartbeats 8000000 in
set_option maxRecDepth 100000 in
theorem whirligigref02_Lex.calls (k : Nat) (a0 : ByteArray) (r1 : List (S31)) (r2 : Int) (r3 : Int) (w : World) (h : whirligigref02_Lex.f k a0 = some (r1, r2, r3)) :
  Calls Tryd.prog 21 #[.string a0] w fun e w' => ∃ v0_ : Value, e = .returned (.tuple #[v0_, .int .i64 r2, .int .i64 r3]) ∧ Kd.R k31 31 w' w.heap.size (fun _ => True) v0_ r1 ∧ Below w.heap.size w w' := by
 have hu31 := Tryd.underlying31
 have HB := Aside0.mk (Below.refl w.heap.size w)
 have H : (whirligigref02_Lex.l0 k a0 ([] : List (S31)) 0) = some (r1, r2, r3) := h
 clear h
 have H' := Aside0.mk H
 clear H
 go_enter Tryd.func21, Tryd.ntmps21
 go_wp2
 go_loopg [5, 6] k (fun kq v5 v6 w' => ∃ (x5_1 : List (S31)) (x6_1 : Int), v6 = .int .i64 x6_1 ∧ Aside0 (whirligigref02_Lex.l0 kq a0 x5_1 x6_1 = some (r1, r2, r3)) ∧ Aside0 (kq ≤ k) ∧ Aside0 (Kd.R k31 31 w' w.heap.size (fun _ => True) v5 x5_1) ∧ Aside0 (Below w.heap.size w w'))
 case atStart => exact ⟨(([] : List (S31))), (0), qE, H', ⟨Nat.le_refl _⟩, ⟨by first | exact Kd.R_nil _ _ _ _ _ | exact Kd.N_nil _ _ _ _ _ | exact Kd.V_nil _ _ _ _ _ | exact Kd.Q_nil _ _ _ _ _ | exact Kd.S_nil _ _ _ _ _⟩, ⟨qB⟩⟩
 case round =>
  clear H'
  obtain ⟨x5_1, x6_1, rfl, HA, HK1, HO_5, HB⟩ := hrel
  cases gk with
  | zero => exact absurd HA.out (by simp [whirligigref02_Lex.l0])
  | succ k1 =>
   have H := HA.out
   clear HA
   simp only [whirligigref02_Lex.l0] at H
   replace H := iD H
   rcases H with ⟨c2b0, H⟩ | ⟨c2b0, H⟩
   ·by_cases c3 : 0 ≤ x6_1
    ·rw [if_pos c3] at H; have c3b0 := decide_eq_true c3; clear c3
     by_cases c5 : (bt a0 x6_1) = 32
     ·rw [if_pos c5] at H; have c5b0 := beq_iff_eq.mpr c5; have c5b1 := bne_eq_false_iff_eq.mpr c5; clear c5; have H' := Aside0.mk H; clear H; have p4 : 0 ≤ (x6_1 : Int) := qD; have q4 : x6_1 < (a0.size : Int) := qD; have hx4 := bt_at a0 x6_1; replace p4 := eq_true p4; replace q4 := eq_true q4
      go_wp2
      go_roundg k1
      case measure => have := HK1.out; omega
      case rel => exact ⟨(x5_1), (wrap64 (x6_1 + 1)), qE, H', ⟨by have := HK1.out; omega⟩, ⟨by (with_reducible repeat (first | apply Kd.R_alloc | apply Kd.R_drewN | apply Kd.R_drew)); exact HO_5.out⟩, ⟨qB⟩⟩
     rw [if_neg c5] at H; have c5b0 := beq_eq_false_iff_ne.mpr c5; have c5b1 := bne_iff_ne.mpr c5
     by_cases c6 : (x5_1.length : Int) = 120
     ·rw [if_pos c6] at H; have c6b0 := beq_iff_eq.mpr c6; have c6b1 := bne_eq_false_iff_eq.mpr c6; clear c6; simp only [Option.some.injEq, Prod.mk.injEq] at H; obtain ⟨rfl, rfl, rfl⟩ := H; have p4 : 0 ≤ (x6_1 : Int) := qD; have q4 : x6_1 < (a0.size : Int) := qD; have hx4 := bt_at a0 x6_1; replace p4 := eq_true p4; replace q4 := eq_true q4; obtain ⟨Ao7, co7, eo7⟩ := Kd.R_slice HO_5.out; subst eo7
      go_wp2
      go_ret3; exact ⟨_, qR, by first | exact Kd.R_nil _ _ _ _ _ | exact Kd.N_nil _ _ _ _ _ | exact Kd.V_nil _ _ _ _ _ | exact Kd.Q_nil _ _ _ _ _ | exact Kd.S_nil _ _ _ _ _, qB⟩
     rw [if_neg c6] at H; have c6b0 := beq_eq_false_iff_ne.mpr c6; have c6b1 := bne_iff_ne.mpr c6; replace H := Option.bind_eq_some_iff.mp H; obtain ⟨⟨t212, t213, t214, t215, t216, t217⟩, A80, H⟩ := H; (try dsimp -simprocs only at H); have A8 := Aside0.mk A80; clear A80
     by_cases c9 : t217 = 0
     ·rw [if_pos c9] at H; have c9b0 := beq_iff_eq.mpr c9; have c9b1 := bne_eq_false_iff_eq.mpr c9; clear c9
      by_cases c10 : x5_1.length < 3518437208883
      ·rw [if_pos c10] at H; have LMc10 := Aside0.mk c10; clear c10; obtain ⟨y219, hy219⟩ : ∃ y_ : List (S31), y_ = (x5_1 ++ [(⟨t212, t213, t214, t215⟩ : S31)]) := ⟨_, rfl⟩; replace H : (whirligigref02_Lex.l0 k1 a0 y219 t216) = some (r1, r2, r3) := by first | (rw [hy219]; with_reducible exact H) | (have H2_ := (Option.bind_some _ _).symm.trans H; rw [hy219]; with_reducible exact H2_) | (have H2_ := (Option.bind_some _ _).symm.trans H; with_reducible exact H2_) | with_reducible exact H | (rw [hy219]; exact H) | exact H
       have Ny219 := Aside0.mk hy219; clear hy219; have H' := Aside0.mk H; clear H; have p4 : 0 ≤ (x6_1 : Int) := qD; have q4 : x6_1 < (a0.size : Int) := qD; have hx4 := bt_at a0 x6_1; replace p4 := eq_true p4; replace q4 := eq_true q4; obtain ⟨Ao11, co11, eo11⟩ := Kd.R_slice HO_5.out; subst eo11
       go_wp2_with (first | ((with_reducible refine gc 70 rfl ?_); refine gl (some 27) #[.string a0, .int .i64 x6_1] Tryd.func70 ?_; (with_reducible refine (whirligigref02_Token.calls k1 a0 x6_1 t212 t213 t214 t215 t216 t217 _ A8.out).mono ?_); rintro e w12 ⟨rfl, hb⟩; refine ⟨_, rfl, ?_⟩; replace HO_5 := rb HO_5 hb; replace HB := bst hb; (try clear hb)) | ((with_reducible refine gd 7 rfl ?_); refine bx 7 #[.int .i64 0, .string (⟨#[]⟩ : ByteArray), .int .i64 0, .int .i64 0] 31 ?_; intro gb218 hg w13 hbox hb; have n0_ := Aside0.mk (Kd.R_below (Kd.R_elderB (by (with_reducible repeat (first | apply Kd.R_alloc | apply Kd.R_drewN | apply Kd.R_drew)); exact HO_5.out) gb218 (Nat.le_of_eq hg.symm)) hb); have n1_ := bst hb; have n2_ := Aside0.mk (hbox); have n3_ := geS hg; have n4_ := geS hg; clear HO_5; clear HB; have HO_5 := n0_; have HB := n1_; have BK218 := n2_; have GW218 := n3_; have GE218 := n4_; clear n0_ n1_ n2_ n3_ n4_; clear hb hbox hg; obtain ⟨_, _, _, _, _, _, _, _⟩ := cells4 BK218.out) | ((with_reducible refine gate_builtin (b := .append) (xs := #[.tmp 35, .tmp 37]) rfl ?_); at_builtin; refine Kd.R_append k31 (w0 := w) w.heap.size rfl (.tmp 35) (.tmp 37) 27 31 (.agg #[(.int .i64 0), (.string ⟨#[]⟩), (.int .i64 0), (.int .i64 0)]) 40 rfl Tryd.underlying27 info31 rfl (by decide) (by omega) (.slice Ao11 x5_1.length co11) x5_1 (⟨t212, t213, t214, t215⟩ : S31) [.int .i64 t212, .string t213, .int .i64 t214, .int .i64 t215] (fun k_ => k_ ≠ gb218) (fun _ => False) rfl (by first | (go_simp; done) | (go_simp; rfl)) ?aP (fun _ hk => hk.elim) ?aF ?aO ?aB ?aS ?aL ?_; (case aP => exact k31_mkM _ _ _ (⟨t212, t213, t214, t215⟩ : S31)); (case aB => exact qB); (case aF => exact (fun k_ hk => Kd.freshB (g := gb218) (o := .cells #[.int .i64 t212, .string t213, .int .i64 t214, .int .i64 t215] 31 (0, 0)) qP k_ hk)); (case aO => exact (by (with_reducible repeat (first | apply Kd.R_alloc | apply Kd.R_drewN | apply Kd.R_drew)); exact Kd.R_mono (Kd.R_far (p := ⟨gb218, 3, none⟩) (Kd.R_far (p := ⟨gb218, 2, none⟩) (Kd.R_far (p := ⟨gb218, 1, none⟩) (Kd.R_far (p := ⟨gb218, 0, none⟩) (Kd.R_mono HO_5.out (fun k_ hk => (⟨hk, hk.2⟩ : _ ∧ k_ ≠ gb218))) (fun _ hk => hk.2) (.int .i64 t212)) (fun _ hk => hk.2) (.string t213)) (fun _ hk => hk.2) (.int .i64 t214)) (fun _ hk => hk.2) (.int .i64 t215)) (fun _ hk => hk.1.2))); (case aS => exact (below_size qB)); (case aL => have := LMc10.out; omega); intro v220 w15 ho hb hg hat; rw [← Ny219.out] at ho; have n0_ := Aside0.mk (blk_grown (g := gb218) (o := .cells #[.int .i64 t212, .string t213, .int .i64 t214, .int .i64 t215] 31 (0, 0)) qP hg (Kd.R_away HO_5.out (fun _ hk => hk.2))); have n1_ := Aside0.mk (hb); have n2_ := Aside0.mk (ho); clear BK218; clear HB; clear HO_5; have BK218 := n0_; have HB := n1_; have HO221 := n2_; clear n0_ n1_ n2_; clear ho hb hg hat))
       go_roundg k1
       case measure => have := HK1.out; omega
       case rel => exact ⟨(y219), (t216), qE, H', ⟨by have := HK1.out; omega⟩, ⟨by (with_reducible repeat (first | apply Kd.R_alloc | apply Kd.R_drewN | apply Kd.R_drew)); exact Kd.R_mono HO221.out (fun _ hk => trivial)⟩, ⟨qB⟩⟩
      rw [if_neg c10] at H; exact absurd H (by simp)
     rw [if_neg c9] at H; have c9b0 := beq_eq_false_iff_ne.mpr c9; have c9b1 := bne_iff_ne.mpr c9; simp only [Option.some.injEq, Prod.mk.injEq] at H; obtain ⟨rfl, rfl, rfl⟩ := H; have p4 : 0 ≤ (x6_1 : Int) := qD; have q4 : x6_1 < (a0.size : Int) := qD; have hx4 := bt_at a0 x6_1; replace p4 := eq_true p4; replace q4 := eq_true q4; obtain ⟨Ao16, co16, eo16⟩ := Kd.R_slice HO_5.out; subst eo16
     go_wp2_with (first | ((with_reducible refine gc 70 rfl ?_); refine gl (some 27) #[.string a0, .int .i64 x6_1] Tryd.func70 ?_; (with_reducible refine (whirligigref02_Token.calls k1 a0 x6_1 t212 t213 t214 t215 t216 t217 _ A8.out).mono ?_); rintro e w17 ⟨rfl, hb⟩; refine ⟨_, rfl, ?_⟩; replace HO_5 := rb HO_5 hb; replace HB := bst hb; (try clear hb)) | ((with_reducible refine gd 7 rfl ?_); refine bx 7 #[.int .i64 0, .string (⟨#[]⟩ : ByteArray), .int .i64 0, .int .i64 0] 31 ?_; intro gb218 hg w18 hbox hb; have n0_ := Aside0.mk (Kd.R_below (Kd.R_elderB (by (with_reducible repeat (first | apply Kd.R_alloc | apply Kd.R_drewN | apply Kd.R_drew)); exact HO_5.out) gb218 (Nat.le_of_eq hg.symm)) hb); have n1_ := bst hb; have n2_ := Aside0.mk (hbox); have n3_ := geS hg; have n4_ := geS hg; clear HO_5; clear HB; have HO_5 := n0_; have HB := n1_; have BK218 := n2_; have GW218 := n3_; have GE218 := n4_; clear n0_ n1_ n2_ n3_ n4_; clear hb hbox hg; obtain ⟨_, _, _, _, _, _, _, _⟩ := cells4 BK218.out))
     go_ret3; exact ⟨_, qR, by first | exact Kd.R_nil _ _ _ _ _ | exact Kd.N_nil _ _ _ _ _ | exact Kd.V_nil _ _ _ _ _ | exact Kd.Q_nil _ _ _ _ _ | exact Kd.S_nil _ _ _ _ _, qB⟩
    rw [if_neg c3] at H
    exact absurd H (by simp)
   simp only [Option.some.injEq, Prod.mk.injEq] at H
   obtain ⟨rfl, rfl, rfl⟩ := H
   go_wp2
   go_ret3
   exact ⟨_, qR, by (with_reducible repeat (first | apply Kd.R_alloc | apply Kd.R_drewN | apply Kd.R_drew)); exact HO_5.out, qB⟩
end Go.Proofs.YtbngfhlciebeeaaDoor.L
end
section
namespace Go.Proofs.YtbngfhlciebeeaaDoor.Sp
set_option linter.unusedVariables false
set_option linter.unusedSimpArgs false
open Go.RowKit Go.Proofs.YtbngfhlciebeeaaDoor.L Go.Proofs.YtbngfhlciebeeaaDoorW.PrintWords
theorem letter_ev (c : UInt8) : whirligigref02_letter.f (c.toNat : Int) = some (smallB c) := by
  unfold whirligigref02_letter.f smallB
  by_cases h : 97 ≤ c.toNat
  · rw [if_pos (by omega), decide_eq_true h, Bool.true_and]
    exact congrArg some (decide_eq_decide.2 (by omega))
  · rw [if_neg (by omega), decide_eq_false h]; rfl
theorem inner_ev (c : UInt8) : whirligigref02_inner.f (c.toNat : Int) = some (innerB c) := by
  unfold whirligigref02_inner.f innerB isDigit
  rw [letter_ev]
  simp only [Option.bind_some]
  cases smallB c
  · by_cases h : 48 ≤ c.toNat
    · by_cases h2 : c.toNat ≤ 57
      · rw [if_neg (by decide), if_pos (by omega), if_pos (by omega), decide_eq_true h, decide_eq_true h2]; rfl
      · rw [if_neg (by decide), if_pos (by omega), if_neg (by omega), decide_eq_true h, decide_eq_false h2]
        exact congrArg some (beq_cast _ 95)
    · rw [if_neg (by decide), if_neg (by omega), decide_eq_false h]
      exact congrArg some (beq_cast _ 95)
  · rfl
theorem rword_l (s : ByteArray) (hs : s.size ≤ 140737488351232) (i d : Nat) : ∀ n, i + n ≤ s.size → s.size - (i + n) = d →
    Ev (fun k => whirligigref02_word.l0 k s (i : Int) (n : Int)) (((pend innerB s.data.toList (i + n) - i : Nat)) : Int) := by
  have hl := len_size s
  induction d with
  | zero =>
    intro n hn hd
    rw [pend_end (by omega)]
    refine Ev.succ ?_
    simp only [whirligigref02_word.l0]
    rw [wrap_at (by omega) (by omega)]
    exact Ev.neg (by omega) (Ev.some (by omega))
  | succ d ih =>
    intro n hn hd
    refine Ev.succ ?_
    simp only [whirligigref02_word.l0]
    rw [wrap_at (by omega) (by omega), show ((i : Int) + (n : Int)) = ((i + n : Nat) : Int) from by omega, bt_nat s (i + n) (by omega)]
    refine Ev.pos (by omega) (Ev.pos (by omega) (Ev.bind_some (inner_ev _) ?_))
    cases hb : innerB (s.data.toList.getD (i + n) 0) with
    | true =>
      rw [pend_step (by omega) hb]
      refine Ev.pos rfl ?_
      rw [wrap_at (by omega) (by omega)]
      exact ih (n + 1) (by omega) (by omega)
    | false =>
      rw [pend_stop (by omega) hb]
      exact Ev.neg (by decide) (Ev.some (by omega))
theorem rword_ev (s : ByteArray) (hs : s.size ≤ 140737488351232) (i : Nat) (hi : i ≤ s.size) : Ev (fun k => whirligigref02_word.f k s (i : Int)) ((pend innerB s.data.toList i - i : Nat) : Int) :=
  rword_l s hs i _ 0 (by omega) rfl
def RefRel (x : Except Int (Int × List UInt8 × Int × Nat)) (i : Nat) : Int × ByteArray × Int × Int × Int × Int :=
  match x with
  | .error e => (0, ⟨#[]⟩, 0, 0, (i : Int), e)
  | .ok (k, t, n, e) => (k, ⟨t.toArray⟩, n, (i : Int), (e : Int), 0)
theorem rpath_l (s : ByteArray) (hs : s.size ≤ 140737488351232) (i : Nat) : ∀ (f e : Nat) (kd : Int), i ≤ e → e ≤ s.size → s.size - e < f →
    Ev (fun k => whirligigref02_path.l0 k s (i : Int) (e : Int) kd false)
      (match pathGo s.data.toList f e kd with
      | none => (0, ⟨#[]⟩, 0, 0, (i : Int), 15)
      | some (k', e') => if e' - i > 32 then (0, ⟨#[]⟩, 0, 0, (i : Int), 15) else (k', s.extract i e', 0, (i : Int), (e' : Int), 0))
  | 0, e, kd, h0, h1, h2 => by omega
  | f + 1, e, kd, h0, h1, h2 => by
    have hl := len_size s
    have hend : ∀ k' : Nat, (if (wrap64 ((e : Int) - (i : Int))) > 32 then (some ((0 : Int), (⟨#[]⟩ : ByteArray), (0 : Int), (0 : Int), (i : Int), (15 : Int))) else (if 0 ≤ (i : Int) then (if (i : Int) ≤ (e : Int) then (if (e : Int) ≤ (s.size : Int) then (some (kd, s.extract ((i : Int) : Int).toNat ((e : Int) : Int).toNat, 0, (i : Int), (e : Int), 0)) else (none)) else (none)) else (none))) = some (if e - i > 32 then (0, ⟨#[]⟩, 0, 0, (i : Int), 15) else (kd, s.extract i e, 0, (i : Int), (e : Int), 0)) := fun k' => by
      rw [wrap_at (by omega) (by omega)]
      by_cases h : e - i > 32
      · rw [if_pos (by omega), if_pos h]
      · rw [if_neg (by omega), if_neg h, if_pos (by omega), if_pos (by omega), if_pos (by omega)]; simp
    by_cases hc : e + 1 < s.data.toList.length ∧ (s.data.toList.getD e 0).toNat = 46 ∧ smallB (s.data.toList.getD (e + 1) 0) = true
    · obtain ⟨hc1, hc2, hc3⟩ := hc
      have hp := le_pend innerB s.data.toList (e + 1)
      have hq := pend_le (p := innerB) (L := s.data.toList) (i := e + 1) (by omega)
      simp only [pathGo]
      rw [if_pos ⟨hc1, hc2, hc3⟩]
      refine Ev.succ ?_
      simp only [whirligigref02_path.l0]
      rw [wrap_at (by omega) (by omega)]
      refine Ev.neg (by decide) (Ev.pos (by omega) (Ev.pos (by omega) (Ev.pos (by omega) ?_)))
      rw [bt_nat s e (by omega)]
      refine Ev.pos (by omega) (Ev.pos (by omega) ?_)
      rw [show ((e : Int) + 1) = ((e + 1 : Nat) : Int) from by omega, bt_nat s (e + 1) (by omega)]
      refine Ev.bind_some (letter_ev _) (Ev.pos hc3 (Ev.bind (rword_ev s hs (e + 1) (by omega)) ?_))
      rw [wrap_at (by omega) (by omega), show (((e + 1 : Nat) : Int) + ((pend innerB s.data.toList (e + 1) - (e + 1) : Nat) : Int)) = ((pend innerB s.data.toList (e + 1) : Nat) : Int) from by omega]
      by_cases hw : pend innerB s.data.toList (e + 1) - (e + 1) > 16
      · rw [if_pos hw, decide_eq_true (by omega)]
        refine Ev.succ ?_
        simp only [whirligigref02_path.l0]
        exact Ev.pos trivial (Ev.some rfl)
      · rw [if_neg hw, decide_eq_false (by omega)]
        exact rpath_l s hs i f (pend innerB s.data.toList (e + 1)) 2 (by omega) (by omega) (by omega)
    · simp only [pathGo]
      rw [if_neg hc]
      refine Ev.succ ?_
      simp only [whirligigref02_path.l0]
      refine Ev.neg (by decide) ?_
      rw [wrap_at (x := (e : Int) + 1) (by omega) (by omega)]
      by_cases h3 : e + 1 < s.size
      · refine Ev.pos (by omega) (Ev.pos (by omega) (Ev.pos (by omega) ?_))
        rw [bt_nat s e (by omega)]
        by_cases h4 : (s.data.toList.getD e 0).toNat = 46
        · refine Ev.pos (by omega) (Ev.pos (by omega) ?_)
          rw [show ((e : Int) + 1) = ((e + 1 : Nat) : Int) from by omega, bt_nat s (e + 1) (by omega)]
          have h5 : smallB (s.data.toList.getD (e + 1) 0) = false := by
            cases hb : smallB (s.data.toList.getD (e + 1) 0)
            · rfl
            · exact absurd ⟨by omega, h4, hb⟩ hc
          refine Ev.bind_some (letter_ev _) (Ev.neg (by rw [h5]; decide) (Ev.const hend))
        · exact Ev.neg (by omega) (Ev.const hend)
      · exact Ev.neg (by omega) (Ev.const hend)
theorem rpath_ev (s : ByteArray) (hs : s.size ≤ 140737488351232) (i : Nat) (hi : i < s.size) (hc : smallB (s.data.toList.getD i 0) = true) :
    Ev (fun k => whirligigref02_path.f k s (i : Int)) (RefRel (tokenAt s.data.toList i) i) := by
  have hl := len_size s
  have hp := le_pend innerB s.data.toList i
  have hq := pend_le (p := innerB) (L := s.data.toList) (i := i) (by omega)
  unfold whirligigref02_path.f tokenAt
  rw [if_pos hc]
  refine Ev.bind (rword_ev s hs i (by omega)) ?_
  rw [wrap_at (by omega) (by omega), show ((i : Int) + ((pend innerB s.data.toList i - i : Nat) : Int)) = ((pend innerB s.data.toList i : Nat) : Int) from by omega]
  by_cases hw : pend innerB s.data.toList i - i > 16
  · rw [if_pos hw, decide_eq_true (by omega)]
    refine Ev.succ ?_
    simp only [whirligigref02_path.l0]
    exact Ev.pos trivial (Ev.some rfl)
  · rw [if_neg hw, decide_eq_false (by omega)]
    have h := rpath_l s hs i (s.data.toList.length + 1) (pend innerB s.data.toList i) 1 hp (by omega) (by omega)
    cases hg : pathGo s.data.toList (s.data.toList.length + 1) (pend innerB s.data.toList i) 1 with
    | none => rw [hg] at h; exact h
    | some x =>
      obtain ⟨k', e'⟩ := x
      rw [hg] at h
      dsimp only at h ⊢
      by_cases h3 : e' - i > 32
      · rw [if_pos h3] at h; rw [if_pos h3]; exact h
      · rw [if_neg h3] at h; rw [if_neg h3, RefRel, ← ext_list]; exact h
theorem rplain_l (t : ByteArray) (ht : t.size ≤ 140737488351232) (d : Nat) : ∀ j, j ≤ t.size → t.size - j = d →
    Ev (fun k => whirligigref01_Plain.l0 k t (j : Int)) ((t.data.toList.drop j).all val_Plain.ok) := by
  have hl := len_size t
  induction d with
  | zero =>
    intro j hj hd
    rw [List.drop_eq_nil_of_le (by omega)]
    refine Ev.succ ?_
    simp only [whirligigref01_Plain.l0]
    exact Ev.neg (by omega) (Ev.some rfl)
  | succ d ih =>
    intro j hj hd
    rw [drop_at (by omega), List.all_cons]
    refine Ev.succ ?_
    simp only [whirligigref01_Plain.l0]
    rw [bt_nat t j (by omega)]
    generalize t.data.toList.getD j 0 = c
    refine Ev.pos (by omega) (Ev.pos (by omega) ?_)
    by_cases h1 : (c.toNat : Int) < 32
    · rw [plain_bad (.inl h1)]; exact Ev.pos h1 (Ev.some rfl)
    · by_cases h2 : 126 < (c.toNat : Int)
      · rw [plain_bad (.inr (.inl h2))]; exact Ev.neg h1 (Ev.pos h2 (Ev.some rfl))
      · by_cases h3 : (c.toNat : Int) = 39
        · rw [plain_bad (.inr (.inr h3))]; exact Ev.neg h1 (Ev.neg h2 (Ev.pos h3 (Ev.some rfl)))
        · rw [plain_ok_of h1 h2 h3, Bool.true_and, wrap_at (by omega) (by omega)]
          exact Ev.neg h1 (Ev.neg h2 (Ev.neg h3 (ih (j + 1) (by omega) (by omega))))
theorem rplain_ev (t : ByteArray) (ht : t.size ≤ 48) : Ev (fun k => whirligigref01_Plain.f k t) (t.data.toList.all val_Plain.ok) := by
  unfold whirligigref01_Plain.f
  exact Ev.neg (by omega) (rplain_l t (by omega) _ 0 (by omega) rfl)
theorem rquote_l (s : ByteArray) (hs : s.size ≤ 140737488351232) (i d : Nat) (r : Int × ByteArray × Int × Int × Int × Int) (hr : Ev (fun k => whirligigref02_quote.j1 k s (i : Int) ((pend noQuoteB s.data.toList (i + 1) : Nat) : Int)) r) : ∀ j, j ≤ s.size → s.size - j = d → pend noQuoteB s.data.toList (i + 1) = pend noQuoteB s.data.toList j →
    Ev (fun k => whirligigref02_quote.l0 k s (i : Int) (j : Int)) r := by
  have hl := len_size s
  induction d with
  | zero =>
    intro j hj hd he
    refine Ev.succ ?_
    simp only [whirligigref02_quote.l0]
    rw [pend_end (i := j) (by omega)] at he
    rw [he] at hr
    exact Ev.neg (by omega) hr
  | succ d ih =>
    intro j hj hd he
    refine Ev.succ ?_
    simp only [whirligigref02_quote.l0]
    rw [bt_nat s j (by omega)]
    refine Ev.pos (by omega) (Ev.pos (by omega) ?_)
    cases hb : noQuoteB (s.data.toList.getD j 0) with
    | true =>
      rw [pend_step (by omega) hb] at he
      rw [wrap_at (by omega) (by omega)]
      have hb' : (s.data.toList.getD j 0).toNat ≠ 39 := by
        intro e
        rw [noQuoteB, e] at hb
        exact absurd hb (by decide)
      exact Ev.neg (by omega) (ih (j + 1) (by omega) (by omega) he)
    | false =>
      rw [pend_stop (by omega) hb] at he
      rw [he] at hr
      have hb' : (s.data.toList.getD j 0).toNat = 39 := Decidable.byContradiction fun e => by
        rw [noQuoteB, bne_iff_ne.2 e] at hb
        cases hb
      exact Ev.pos (by omega) hr
theorem rquote_ev (s : ByteArray) (hs : s.size ≤ 140737488351232) (i : Nat) (hi : i < s.size) (hc : smallB (s.data.toList.getD i 0) = false) (hd : isDigit (s.data.toList.getD i 0) = false) (hq' : (s.data.toList.getD i 0).toNat = 39) :
    Ev (fun k => whirligigref02_quote.f k s (i : Int)) (RefRel (tokenAt s.data.toList i) i) := by
  have hl := len_size s
  have hp := le_pend noQuoteB s.data.toList (i + 1)
  have hq := pend_le (p := noQuoteB) (L := s.data.toList) (i := i + 1) (by omega)
  unfold whirligigref02_quote.f
  rw [wrap_at (by omega) (by omega), show ((i : Int) + 1) = ((i + 1 : Nat) : Int) from by omega]
  refine rquote_l s hs i _ _ ?_ (i + 1) (by omega) rfl rfl
  unfold tokenAt
  rw [if_neg (by rw [hc]; decide), if_neg (by rw [hd]; decide), if_pos hq']
  generalize pend noQuoteB s.data.toList (i + 1) = E at *
  have hz := ext_size (s := s) (i := i + 1) (e := E) (by omega)
  refine Ev.succ ?_
  simp only [whirligigref02_quote.j1]
  by_cases h1 : s.data.toList.length ≤ E
  · rw [if_pos h1]; exact Ev.pos (by omega) (Ev.some rfl)
  · rw [if_neg h1]
    refine Ev.neg (by omega) ?_
    rw [wrap_at (x := (E : Int) - (i : Int)) (by omega) (by omega), wrap_at (x := (E : Int) - (i : Int) - 1) (by omega) (by omega), wrap_at (x := (i : Int) + 1) (by omega) (by omega), wrap_at (x := (E : Int) + 1) (by omega) (by omega)]
    by_cases h2 : E - (i + 1) > 48
    · rw [if_pos h2]; exact Ev.pos (by omega) (Ev.some rfl)
    · rw [if_neg h2]
      refine Ev.neg (by omega) (Ev.pos (by omega) (Ev.pos (by omega) (Ev.pos (by omega) ?_)))
      rw [show ((i : Int) + 1) = ((i + 1 : Nat) : Int) from by omega, Int.toNat_natCast, Int.toNat_natCast]
      refine Ev.bind (rplain_ev _ (by omega)) ?_
      rw [ext_data]
      by_cases hb : (cut s.data.toList (i + 1) E).all val_Plain.ok = true
      · simp only [if_pos hb]
        exact Ev.some (by simp only [RefRel, ext_list]; rfl)
      · simp only [if_neg hb]
        exact Ev.some rfl
def valN : List UInt8 → Nat → Nat
  | [], n => n
  | c :: l, n => valN l (n * 10 + (c.toNat - 48))
theorem valN_nil (n : Nat) : valN [] n = n := rfl
theorem valN_cons (c : UInt8) (l : List UInt8) (n : Nat) : valN (c :: l) n = valN l (n * 10 + (c.toNat - 48)) := rfl
theorem valN_ge : ∀ (l : List UInt8) (n : Nat), n ≤ valN l n
  | [], n => Nat.le_refl _
  | c :: l, n => by
    have := valN_ge l (n * 10 + (c.toNat - 48))
    simp only [valN]; omega
theorem digit_bounds {c : UInt8} (h : isDigit c = true) : 48 ≤ c.toNat ∧ c.toNat ≤ 57 := by
  unfold isDigit at h
  simp at h
  exact h
theorem numFold_val : ∀ (l : List UInt8) (n : Nat), n ≤ 9223372036854775807 → l.all isDigit = true → numFold l (n : Int) = if valN l n ≤ 9223372036854775807 then some ((valN l n : Nat) : Int) else none
  | [], n, hn, h => by rw [valN_nil, if_pos hn]; rfl
  | c :: l, n, hn, h => by
    rw [List.all_cons, Bool.and_eq_true] at h
    obtain ⟨hc, hl⟩ := h
    have hb := digit_bounds hc
    have hge := valN_ge l (n * 10 + (c.toNat - 48))
    rw [valN_cons]
    simp only [numFold]
    by_cases ho : (n : Int) > (9223372036854775807 - ((c.toNat : Int) - 48)) / 10
    · rw [if_pos ho, if_neg (by omega)]
    · rw [if_neg ho, show ((n : Int) * 10 + ((c.toNat : Int) - 48)) = ((n * 10 + (c.toNat - 48) : Nat) : Int) from by omega]
      exact numFold_val l _ (by omega) hl
def dec (n : Nat) : List UInt8 := if h : n < 10 then [UInt8.ofNat (48 + n)] else dec (n / 10) ++ [UInt8.ofNat (48 + n % 10)]
theorem dec_small {n : Nat} (h : n < 10) : dec n = [UInt8.ofNat (48 + n)] := by rw [dec, dif_pos h]
theorem dec_big {n : Nat} (h : ¬ n < 10) : dec n = dec (n / 10) ++ [UInt8.ofNat (48 + n % 10)] := by rw [dec, dif_neg h]
theorem dec_len : ∀ (k n : Nat), n < 10 ^ (k + 1) → (dec n).length ≤ k + 1
  | 0, n, h => by rw [dec_small (by simpa using h)]; simp
  | k + 1, n, h => by
    by_cases h1 : n < 10
    · rw [dec_small h1]; simp
    · rw [dec_big h1, List.length_append]
      have := dec_len k (n / 10) (by rw [Nat.pow_succ] at h; omega)
      simp; omega
theorem valN_snoc : ∀ (l : List UInt8) (c : UInt8) (n : Nat), valN (l ++ [c]) n = valN l n * 10 + (c.toNat - 48)
  | [], c, n => rfl
  | d :: l, c, n => by simp only [List.cons_append, valN]; exact valN_snoc l c _
theorem valN_pos : ∀ (l : List UInt8) (n : Nat), 0 < n → 0 < valN l n := fun l n h => by have := valN_ge l n; omega
theorem ofNat_digit {c : UInt8} (h : 48 ≤ c.toNat ∧ c.toNat ≤ 57) : UInt8.ofNat (48 + (c.toNat - 48)) = c := by
  rw [show 48 + (c.toNat - 48) = c.toNat from by omega]; exact UInt8.ofNat_toNat
theorem dec_val (n : Nat) : ∀ (l : List UInt8), l.length = n + 1 → l.all isDigit = true → (n = 0 ∨ (l.getD 0 0).toNat ≠ 48) → dec (valN l 0) = l := by
  induction n with
  | zero =>
    intro l hl ha _
    match l, hl with
    | [c], _ =>
      have hb := digit_bounds (c := c) (by simpa using ha)
      simp only [valN]
      rw [dec_small (by omega), show 48 + (0 * 10 + (c.toNat - 48)) = 48 + (c.toNat - 48) from by omega, ofNat_digit hb]
  | succ n ih =>
    intro l hl ha hz
    have hne : l ≠ [] := by intro e; rw [e] at hl; cases hl
    obtain ⟨l', c, rfl⟩ : ∃ l' c, l = l' ++ [c] := ⟨l.dropLast, l.getLast hne, (List.dropLast_concat_getLast hne).symm⟩
    rw [List.length_append] at hl
    have hl' : l'.length = n + 1 := by simpa using hl
    rw [List.all_append, Bool.and_eq_true] at ha
    have hb := digit_bounds (c := c) (by simpa using ha.2)
    have h0 : (l' ++ [c]).getD 0 0 = l'.getD 0 0 := by
      rw [List.getD_eq_getElem?_getD, List.getD_eq_getElem?_getD, List.getElem?_append_left (by omega)]
    have hz' : (l'.getD 0 0).toNat ≠ 48 := by
      rcases hz with h | h
      · omega
      · rw [h0] at h; exact h
    have hp : 0 < valN l' 0 := by
      match l', hl' with
      | d :: l', _ =>
        have hd := digit_bounds (c := d) (by have := ha.1; rw [List.all_cons, Bool.and_eq_true] at this; exact this.1)
        have hz2 : d.toNat ≠ 48 := hz'
        simp only [valN]
        exact valN_pos l' _ (by omega)
    rw [valN_snoc, dec_big (by omega), show (valN l' 0 * 10 + (c.toNat - 48)) / 10 = valN l' 0 from by omega, show (valN l' 0 * 10 + (c.toNat - 48)) % 10 = c.toNat - 48 from by omega, ofNat_digit hb, ih l' hl' ha.1 (.inr hz')]
theorem digits_ev : ∀ (f n : Nat), n < f → n ≤ 9223372036854775807 → Ev (fun k => whirligigref01_Digits.f k (n : Int)) ⟨(dec n).toArray⟩
  | 0, n, h, _ => by omega
  | f + 1, n, h, hn => by
    refine Ev.succ ?_
    simp only [whirligigref01_Digits.f]
    refine Ev.neg (by omega) (Ev.neg (by omega) ?_)
    have one : ∀ m : Nat, m < 10 → Go.strOfNums [(wrap64 (48 + (m : Int))) % 256] = ⟨(dec m).toArray⟩ := fun m hm => by
      rw [dec_small hm, wrap_at (by omega) (by omega)]
      unfold strOfNums
      rw [show ((48 + (m : Int)) % 256) = ((48 + m : Nat) : Int) from by omega, List.map_cons, List.map_nil, Int.toNat_natCast]
    by_cases h1 : n < 10
    · exact Ev.pos (by omega) (Ev.some (one n h1))
    · refine Ev.neg (by omega) ?_
      rw [show Int.tdiv (n : Int) 10 = ((n / 10 : Nat) : Int) from by rw [Int.tdiv_eq_ediv_of_nonneg (by omega)]; omega, show Int.tmod (n : Int) 10 = ((n % 10 : Nat) : Int) from by rw [Int.tmod_eq_emod_of_nonneg (by omega)]; omega, wrap_at (by omega) (by omega)]
      refine Ev.bind (digits_ev f (n / 10) (by omega) (by omega)) ?_
      refine Ev.bind (digits_ev f (n % 10) (by omega) (by omega)) ?_
      have l1 := dec_len 18 (n / 10) (by omega)
      have l2 := dec_len 18 (n % 10) (by omega)
      refine Ev.pos (by rw [size_mk, size_mk]; omega) (Ev.some ?_)
      rw [mk_append, dec_big h1, dec_small (n := n % 10) (by omega)]
theorem rnum_l (t : ByteArray) (ht : t.size ≤ 1000) (hall : t.data.toList.all isDigit = true) (d : Nat) : ∀ (j N : Nat), j ≤ t.size → t.size - j = d → N ≤ 9223372036854775808 →
    Ev (fun k => whirligigref01_Number.l0 k t t (-(N : Int)) (j : Int))
      (if valN (t.data.toList.drop j) N ≤ 9223372036854775807 then (((valN (t.data.toList.drop j) N : Nat) : Int), decide ((⟨(dec (valN (t.data.toList.drop j) N)).toArray⟩ : ByteArray) = t)) else (0, false)) := by
  have hl := len_size t
  induction d with
  | zero =>
    intro j N hj hd hN
    rw [List.drop_eq_nil_of_le (by omega)]
    rw [valN_nil]
    refine Ev.succ ?_
    simp only [whirligigref01_Number.l0]
    refine Ev.neg (by omega) (Ev.pos (by first | trivial | rfl) ?_)
    by_cases h : N = 9223372036854775808
    · rw [if_neg (by omega)]
      exact Ev.pos (by omega) (Ev.some rfl)
    · rw [if_pos (by omega)]
      refine Ev.neg (by omega) ?_
      rw [Int.neg_neg, wrap_at (by omega) (by omega)]
      exact Ev.bind (digits_ev (N + 1) N (by omega) (by omega)) (Ev.some (by rw [eq_lists]))
  | succ d ih =>
    intro j N hj hd hN
    have hlt : j < t.data.toList.length := by omega
    rw [drop_at hlt, valN_cons]
    have hc := digit_bounds (List.all_eq_true.1 hall (t.data.toList.getD j 0) (by rw [List.getD_eq_getElem?_getD, List.getElem?_eq_getElem hlt]; exact List.getElem_mem hlt))
    refine Ev.succ ?_
    simp only [whirligigref01_Number.l0]
    rw [bt_nat t j (by omega)]
    refine Ev.pos (by omega) (Ev.pos (by omega) (Ev.neg (by omega) ?_))
    rw [decide_eq_false (by omega)]
    refine Ev.succ ?_
    simp only [whirligigref01_Number.j4]
    rw [bt_nat t j (by omega)]
    generalize t.data.toList.getD j 0 = c at *
    have hge := valN_ge (t.data.toList.drop (j + 1)) (N * 10 + (c.toNat - 48))
    rw [show (((c.toNat : Int) - 48) % 256) = ((c.toNat - 48 : Nat) : Int) from by omega]
    generalize hD : c.toNat - 48 = D at *
    rw [show ((-9223372036854775808) + (D : Int)) = -(9223372036854775808 - (D : Int)) from by omega, Int.neg_tdiv, Int.tdiv_eq_ediv_of_nonneg (by omega)]
    refine Ev.neg (by decide) (Ev.pos (by omega) (Ev.pos (by omega) ?_))
    by_cases ho : -(N : Int) < -((9223372036854775808 - (D : Int)) / 10)
    · rw [if_neg (by omega)]
      exact Ev.pos ho (Ev.some rfl)
    · refine Ev.neg ho ?_
      rw [wrap_at (x := 10 * -(N : Int)) (by omega) (by omega), wrap_at (by omega) (by omega), wrap_at (by omega) (by omega), show (10 * -(N : Int) - (D : Int)) = -((N * 10 + D : Nat) : Int) from by omega]
      exact ih (j + 1) (N * 10 + D) (by omega) (by omega) (by omega)
theorem rnum_ev (t : ByteArray) (ht : t.size ≤ 140737488351232) (h0 : 0 < t.size) (hall : t.data.toList.all isDigit = true) (hz : t.size = 1 ∨ (t.data.toList.getD 0 0).toNat ≠ 48) :
    Ev (fun k => whirligigref01_Number.f k t) (match numFold t.data.toList 0 with | some n => (n, true) | none => (0, false)) := by
  have hl := len_size t
  have hd0 := digit_bounds (List.all_eq_true.1 hall (t.data.toList.getD 0 0) (by rw [List.getD_eq_getElem?_getD, List.getElem?_eq_getElem (by omega)]; exact List.getElem_mem (by omega)))
  unfold whirligigref01_Number.f
  rw [show bt t 0 = ((t.data.toList.getD 0 0).toNat : Int) from bt_nat t 0 h0]
  refine Ev.pos (by omega) (Ev.pos (by omega) ?_)
  rw [show (((t.data.toList.getD 0 0).toNat : Int) == 45) = false from by rw [beq_eq_false_iff_ne]; omega]
  refine Ev.succ ?_
  simp only [whirligigref01_Number.j0]
  refine Ev.neg (by decide) (Ev.succ ?_)
  simp only [whirligigref01_Number.j1]
  refine Ev.neg (by omega) (Ev.succ ?_)
  simp only [whirligigref01_Number.j2]
  have hf := numFold_val t.data.toList 0 (by omega) hall
  rw [show ((0 : Nat) : Int) = 0 from rfl] at hf
  rw [hf]
  have hdv := dec_val (t.size - 1) t.data.toList (by omega) hall (hz.imp (by omega) id)
  by_cases h19 : t.size > 19
  · rw [decide_eq_true (by omega)]
    have : ¬ valN t.data.toList 0 ≤ 9223372036854775807 := fun h => by
      have := dec_len 18 (valN t.data.toList 0) (by omega)
      rw [hdv] at this
      omega
    rw [if_neg this]
    exact Ev.pos rfl (Ev.some rfl)
  · rw [decide_eq_false (by omega)]
    refine Ev.neg (by decide) ?_
    have h := rnum_l t (by omega) hall t.size 0 0 (by omega) rfl (by omega)
    rw [List.drop_zero] at h
    by_cases hv : valN t.data.toList 0 ≤ 9223372036854775807
    · rw [if_pos hv] at h
      rw [if_pos hv]
      rw [hdv, decide_eq_true (by exact ext_bytes rfl)] at h
      exact h
    · rw [if_neg hv] at h
      rw [if_neg hv]
      exact h
theorem rnumber_l (s : ByteArray) (hs : s.size ≤ 140737488351232) (i d : Nat) (r : Int × ByteArray × Int × Int × Int × Int) (hr : Ev (fun k => whirligigref02_number.j1 k s (i : Int) ((pend isDigit s.data.toList i : Nat) : Int)) r) : ∀ j, j ≤ s.size → s.size - j = d → pend isDigit s.data.toList i = pend isDigit s.data.toList j →
    Ev (fun k => whirligigref02_number.l0 k s (i : Int) (j : Int)) r := by
  have hl := len_size s
  induction d with
  | zero =>
    intro j hj hd he
    refine Ev.succ ?_
    simp only [whirligigref02_number.l0]
    rw [pend_end (i := j) (by omega)] at he
    rw [he] at hr
    exact Ev.neg (by omega) hr
  | succ d ih =>
    intro j hj hd he
    refine Ev.succ ?_
    simp only [whirligigref02_number.l0]
    rw [bt_nat s j (by omega)]
    refine Ev.pos (by omega) (Ev.pos (by omega) ?_)
    cases hb : isDigit (s.data.toList.getD j 0) with
    | true =>
      have hb' := digit_bounds hb
      rw [pend_step (by omega) hb] at he
      rw [wrap_at (by omega) (by omega)]
      exact Ev.pos (by omega) (Ev.pos (by omega) (ih (j + 1) (by omega) (by omega) he))
    | false =>
      rw [pend_stop (by omega) hb] at he
      rw [he] at hr
      unfold isDigit at hb
      by_cases h1 : 48 ≤ (s.data.toList.getD j 0).toNat
      · rw [decide_eq_true h1, Bool.true_and, decide_eq_false_iff_not] at hb
        exact Ev.pos (by omega) (Ev.neg (by omega) hr)
      · exact Ev.neg (by omega) hr
theorem rnumber_ev (s : ByteArray) (hs : s.size ≤ 140737488351232) (i : Nat) (hi : i < s.size) (hc : smallB (s.data.toList.getD i 0) = false) (hd : isDigit (s.data.toList.getD i 0) = true) :
    Ev (fun k => whirligigref02_number.f k s (i : Int)) (RefRel (tokenAt s.data.toList i) i) := by
  have hl := len_size s
  have hp := le_pend isDigit s.data.toList (i + 1)
  have hst := pend_step (p := isDigit) (L := s.data.toList) (i := i) (by omega) hd
  have hq := pend_le (p := isDigit) (L := s.data.toList) (i := i) (by omega)
  unfold whirligigref02_number.f
  refine rnumber_l s hs i _ _ ?_ i (by omega) rfl rfl
  have hall : (s.extract i (pend isDigit s.data.toList i)).data.toList.all isDigit = true := by
    rw [ext_data, cut_pend]
    exact List.all_takeWhile
  have h2 : (s.extract i (pend isDigit s.data.toList i)).data.toList.getD 0 0 = s.data.toList.getD i 0 := by
    rw [ext_data, cut_pend, drop_at (by omega), List.takeWhile_cons_of_pos hd]; rfl
  have hz := ext_size (s := s) (i := i) (e := pend isDigit s.data.toList i) (by omega)
  unfold tokenAt
  rw [if_neg (by rw [hc]; decide), if_pos hd]
  generalize hE : pend isDigit s.data.toList i = E at *
  refine Ev.succ ?_
  simp only [whirligigref02_number.j1]
  rw [bt_nat s i hi, wrap_at (by omega) (by omega)]
  refine Ev.pos (by omega) (Ev.pos (by omega) ?_)
  have hgo : (¬ (E - i > 1 ∧ (s.data.toList.getD i 0).toNat = 48)) → Ev (fun k => whirligigref02_number.j2 k s (i : Int) (E : Int) false) (RefRel (match numFold (cut s.data.toList i E) 0 with | none => .error 21 | some n => .ok (3, cut s.data.toList i E, n, E)) i) := fun hn => by
    refine Ev.succ ?_
    simp only [whirligigref02_number.j2]
    refine Ev.neg (by decide) (Ev.pos (by omega) (Ev.pos (by omega) (Ev.pos (by omega) ?_)))
    rw [Int.toNat_natCast, Int.toNat_natCast]
    refine Ev.bind (rnum_ev _ (by omega) (by omega) hall (by rw [h2, hz]; omega)) ?_
    rw [ext_data]
    cases numFold (cut s.data.toList i E) 0 with
    | none => exact Ev.neg (by decide) (Ev.some rfl)
    | some n => exact Ev.pos rfl (Ev.some (by simp only [RefRel, ext_list]))
  by_cases h48 : (s.data.toList.getD i 0).toNat = 48
  · refine Ev.pos (by omega) ?_
    by_cases h1 : E - i > 1
    · rw [if_pos ⟨h1, h48⟩, decide_eq_true (by omega)]
      refine Ev.succ ?_
      simp only [whirligigref02_number.j2]
      exact Ev.pos trivial (Ev.some rfl)
    · rw [if_neg (fun h => h1 h.1), decide_eq_false (by omega)]
      exact hgo (fun h => h1 h.1)
  · rw [if_neg (fun h => h48 h.2)]
    exact Ev.neg (by omega) (hgo (fun h => h48 h.2))
end Go.Proofs.YtbngfhlciebeeaaDoor.Sp
end
