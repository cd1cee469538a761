/- Printed and hand-written steps towards the row (TreeMoves), those that it reaches. -/
import Derived.Test.YtbngfhlciebeeaaDoorTreeMovesG4
import Derived.Test.YtbngfhlciebeeaaDoorTreeMovesG23
import Derived.Test.YtbngfhlciebeeaaDoorTreeMovesLxf32
namespace Go.Proofs.YtbngfhlciebeeaaDoor.L
open Go.RowKit Go.Proofs.YtbngfhlciebeeaaDoorW.PrintWords Go.Proofs.YtbngfhlciebeeaaDoorW.PrintLast Go.Proofs.YtbngfhlciebeeaaDoorW.PrintMore
attribute [local go_sem] max2_int min2_int max_two min_two max_three min_three max_four min_four   -- for this text's walks alone
set_option linter.unusedVariables false
set_option linter.unusedSimpArgs false
mutual
def whirligigref22_Right.j0 : Nat → List (S65) → Bool → Option (Bool)
 | 0, _, _ => none
 | k + 1, x0, x12 => if x12 = true then (some false) else (whirligigref22_Right.l0 k x0 0)
def whirligigref22_Right.l0 : Nat → List (S65) → Int → Option (Bool)
 | 0, _, _ => none
 | k + 1, x0, x3 => if x3 < (x0.length : Int) then (if 0 ≤ x3 then ((whirligigref22_branch.f k ((rd_T65 x0 x3).f0) ((rd_T65 x0 x3).f1) ((rd_T65 x0 x3).f2) ((rd_T65 x0 x3).f3)).bind fun t465 => (if t465 = true then (if x3 = 0 then (if ((rd_T65 x0 x3).f0) = (-1) then (if ((rd_T65 x0 x3).f1) = 0 then (whirligigref22_Right.l0 k x0 (wrap64 (x3 + 1))) else (some false)) else (some false)) else (if ((rd_T65 x0 x3).f0) < 0 then (whirligigref22_Right.j2 k x0 x3 true ((rd_T65 x0 x3).f0) ((rd_T65 x0 x3).f1) ((rd_T65 x0 x3).f2) ((rd_T65 x0 x3).f3)) else (if ((rd_T65 x0 x3).f0) ≥ x3 then (whirligigref22_Right.j2 k x0 x3 true ((rd_T65 x0 x3).f0) ((rd_T65 x0 x3).f1) ((rd_T65 x0 x3).f2) ((rd_T65 x0 x3).f3)) else (if ((rd_T65 x0 x3).f1) < 0 then (whirligigref22_Right.j2 k x0 x3 true ((rd_T65 x0 x3).f0) ((rd_T65 x0 x3).f1) ((rd_T65 x0 x3).f2) ((rd_T65 x0 x3).f3)) else (if 0 ≤ ((rd_T65 x0 x3).f0) then (if ((rd_T65 x0 x3).f0) < (x0.length : Int) then (if ((rd_T65 x0 x3).f1) ≥ ((rd_T65 x0 ((rd_T65 x0 x3).f0)).f2) then (whirligigref22_Right.j2 k x0 x3 true ((rd_T65 x0 x3).f0) ((rd_T65 x0 x3).f1) ((rd_T65 x0 x3).f2) ((rd_T65 x0 x3).f3)) else (whirligigref22_Right.j2 k x0 x3 (decide (((rd_T65 x0 x3).f2) ≤ ((rd_T65 x0 x3).f1))) ((rd_T65 x0 x3).f0) ((rd_T65 x0 x3).f1) ((rd_T65 x0 x3).f2) ((rd_T65 x0 x3).f3))) else (none)) else (none)))))) else (some false))) else (none)) else (some true)
def whirligigref22_Right.j2 : Nat → List (S65) → Int → Bool → Int → Int → Int → List (S47) → Option (Bool)
 | 0, _, _, _, _, _, _, _ => none
 | k + 1, x0, x3, x67, x465000, x465001, x465002, x465003 => if x67 = true then (some false) else ((whirligigref22_Moves.f k x465000 x465001 x465002 x465003).bind fun t467 => (if 0 ≤ x465001 then (if x465001 < (t467.length : Int) then (if ((rd_T47 t467 x465001).f1) = 0 then (some false) else (if 0 ≤ x465000 then (if x465000 < (x0.length : Int) then ((whirligigref22_Common.f k ((rd_T65 x0 x465000).f0) ((rd_T65 x0 x465000).f1) ((rd_T65 x0 x465000).f2) ((rd_T65 x0 x465000).f3) x465000 x465001 x465002 x465003).bind fun t472 => (if t472 < x465001 then (some false) else (whirligigref22_Right.l0 k x0 (wrap64 (x3 + 1))))) else (none)) else (none))) else (none)) else (none)))
end
def whirligigref22_Right.f (k : Nat) (l0 : List (S65)) : Option (Bool) := if (l0.length : Int) < 1 then (whirligigref22_Right.j0 k l0 true) else (whirligigref22_Right.j0 k l0 (decide ((l0.length : Int) > 8)))
def whirligigref22_Right.T12 : Bool × List (List Nat × List Nat) := (true, [([], []), ([0], [0]), ([1], [1]), ([2], [2]), ([3], [3]), ([4, 3], [3, 4]), ([3], [3]), ([5, 6, 3], [3, 5, 6]), ([3, 7], [3, 7]), ([8, 3], [8]), ([9], [9]), ([10, 9], [9, 10]), ([11, 9], [9, 11]), ([9, 12], [9, 12]), ([13, 9], [13]), ([14], [14]), ([15, 14], [14, 15]), ([14], [14]), ([14], [14]), ([18, 14], [14, 18]), ([17, 19, 14], [14, 17, 19]), ([20, 14], [14, 20]), ([21, 14], [14, 21]), ([16, 22, 14], [14, 16, 22]), ([14, 23], [14, 23]), ([24, 14], [24]), ([25], [25]), ([26, 25], [25, 26]), ([25], [25]), ([28, 25], [25, 28]), ([27, 29, 25], [25, 27, 29]), ([25, 30], [25, 30])])
def whirligigref22_Right.B12 : List Nat := [0, 1, 3, 7, 15, 31, 15, 127, 255, 511, 1023, 2047, 4095, 8191, 16383, 32767, 65535, 32767, 32767, 294911, 950271, 1998847, 4095999, 8388607, 16777215, 33554431, 67108863, 134217727, 67108863, 335544319, 1073741823, 2147483647]
theorem whirligigref22_Right.tab12 : rtab .any (opsOf Tryd.f36 12) = whirligigref22_Right.T12 := by kernel_rfl
theorem whirligigref22_Right.bits12 : waitsOk whirligigref22_Right.T12.2 whirligigref22_Right.B12 = true := by kernel_rfl
def whirligigref22_Right.T14 : Bool × List (List Nat × List Nat) := (true, [([], []), ([0], [0]), ([], []), ([2], [2]), ([1, 3], [1, 3]), ([4], [4]), ([5], [5]), ([6], [6]), ([7, 1], [7]), ([8], [8]), ([8], [8]), ([10, 8], [8, 10]), ([9, 11, 8], [8, 9, 11]), ([12, 8], [8, 12]), ([8], [8]), ([13, 14, 8, 8], [8, 13, 14]), ([8], [8]), ([16, 8], [8, 16]), ([15, 17, 8], [8, 15, 17]), ([8, 18], [8, 18])])
def whirligigref22_Right.B14 : List Nat := [0, 1, 0, 4, 15, 31, 63, 127, 255, 511, 511, 1535, 4095, 8191, 511, 32767, 511, 66047, 262143, 524287]
theorem whirligigref22_Right.tab14 : rtab .any (opsOf Tryd.f36 14) = whirligigref22_Right.T14 := by kernel_rfl
theorem whirligigref22_Right.bits14 : waitsOk whirligigref22_Right.T14.2 whirligigref22_Right.B14 = true := by kernel_rfl
set_option maxHeartbeats 8000000 in
set_option maxRecDepth 100000 in
theorem whirligigref22_Right.calls (k : Nat) (A0 : Option Addr) (c0 : Nat) (l0 : List (S65)) (r : Bool) (w : World) (hr0 : Kd.C k65 w A0 l0.length l0) (hc0 : l0.length ≤ c0) (h : whirligigref22_Right.f k l0 = some r) :
  Calls Tryd.prog 36 #[.slice A0 l0.length c0] w fun e w' => e = .returned (.bool r) ∧ Below w.heap.size w w' := by
 have hu65 := Tryd.underlying65
 have HR0 := Aside0.mk hr0
 have HC0 := Aside0.mk hc0
 clear hr0 hc0
 have HB := Aside0.mk (Below.refl w.heap.size w)
 have H : (if (l0.length : Int) < 1 then (whirligigref22_Right.j0 k l0 true) else (whirligigref22_Right.j0 k l0 (decide ((l0.length : Int) > 8)))) = some r := h
 clear h
 have HC2 := Aside0.mk H
 clear H
 go_enter Tryd.func36, Tryd.ntmps36
 go_upto_region 1 with (fail)
 go_cut [12] (fun v12 wc => ∃ (kq : Nat) (x12_1 : Bool), v12 = .bool x12_1 ∧ Aside0 (whirligigref22_Right.j0 kq l0 x12_1 = some r) ∧ Aside0 (kq ≤ k) ∧ Aside0 (Below w.heap.size w wc))
 case first =>
  have H := HC2.out
  clear HC2
  by_cases c3 : (l0.length : Int) < 1
  ·rw [if_pos c3] at H
   have c3b0 := decide_eq_true c3
   have c3b1 : decide (l0.length < 1) = true := decide_eq_true (by omega)
   clear c3
   (first | rw [c3b0] | (simp only [i64_w, i32_w]; rw [c3b0]) | skip)
   have H' := Aside0.mk H
   clear H
   go_wp2
   go_meet
   case rel => exact ⟨_, (true), (by first | rfl | (simp; done) | (simp [*]; done)), H', ⟨by first | omega | exact Nat.le_refl _⟩, ⟨qB⟩⟩
  ·rw [if_neg c3] at H
   have c3b0 := decide_eq_false c3
   have c3b1 : decide (l0.length < 1) = false := decide_eq_false (by omega)
   clear c3
   (first | rw [c3b0] | (simp only [i64_w, i32_w]; rw [c3b0]) | skip)
   have H' := Aside0.mk H
   clear H
   go_wp2
   go_meet
   case rel => exact ⟨_, (decide ((l0.length : Int) > 8)), (by first | rfl | (simp; done) | (simp [*]; done)), H', ⟨by first | omega | exact Nat.le_refl _⟩, ⟨qB⟩⟩
 case rest =>
  clear HC2
  try clear p2
  try clear c3
  try clear c3b0
  try clear c3b1
  obtain ⟨kq, x12_1, rfl, HA, HJ1, HB⟩ := hcut
  cases kq with
  | zero => exact absurd HA.out (by simp [whirligigref22_Right.j0])
  | succ kj1 =>
   have H := HA.out
   clear HA
   simp only [whirligigref22_Right.j0] at H
   by_cases c4 : x12_1 = true
   ·subst c4
    rw [if_pos rfl] at H
    obtain rfl := Option.some.inj H
    go_wp2
    go_ret
    exact ⟨qR, qB⟩
   ·replace c4 := Bool.eq_false_iff.mpr c4
    subst c4
    rw [if_neg (show ¬ (false = true) by decide)] at H
    have H' := Aside0.mk H
    clear H
    go_wp2
    go_loopg [3] kj1 (fun kq v3 w' => ∃ (x3_2 : Int), v3 = .int .i64 x3_2 ∧ Aside0 (whirligigref22_Right.l0 kq l0 x3_2 = some r) ∧ Aside0 (kq ≤ kj1) ∧ Aside0 (Below w.heap.size w w'))
    case atStart => exact ⟨(0), (by first | rfl | (simp; done) | (simp [*]; done)), H', ⟨Nat.le_refl _⟩, ⟨qB⟩⟩
    case round =>
     clear H'
     try clear p2 p2
     try clear c3
     try clear c3b0
     try clear c3b1
     try clear c4
     obtain ⟨x3_2, rfl, HA, HK2, HB⟩ := hrel
     cases gk with
     | zero => exact absurd HA.out (by simp [whirligigref22_Right.l0])
     | succ k2 =>
      have H := HA.out
      clear HA
      simp only [whirligigref22_Right.l0] at H
      by_cases c5 : x3_2 < (l0.length : Int)
      ·rw [if_pos c5] at H
       have c5b0 := decide_eq_true c5
       clear c5
       by_cases c6 : 0 ≤ x3_2
       ·rw [if_pos c6] at H
        have c6b0 := decide_eq_true c6
        clear c6
        replace H := Option.bind_eq_some_iff.mp H
        obtain ⟨t465, A70, H⟩ := H
        (try dsimp -simprocs only at H)
        have A7 := Aside0.mk A70
        clear A70
        by_cases c8 : t465 = true
        ·subst c8
         rw [if_pos rfl] at H
         by_cases c9 : x3_2 = 0
         ·rw [if_pos c9] at H
          have c9b0 := beq_iff_eq.mpr c9
          have c9b1 := bne_eq_false_iff_eq.mpr c9
          clear c9
          by_cases c10 : ((rd_T65 l0 x3_2).f0) = (-1)
          ·rw [if_pos c10] at H
           have c10b0 := beq_iff_eq.mpr c10
           have c10b1 := bne_eq_false_iff_eq.mpr c10
           clear c10
           by_cases c11 : ((rd_T65 l0 x3_2).f1) = 0
           ·rw [if_pos c11] at H
            have c11b0 := beq_iff_eq.mpr c11
            have c11b1 := bne_eq_false_iff_eq.mpr c11
            clear c11
            have H' := Aside0.mk H
            clear H
            have p463 : 0 ≤ (x3_2 : Int) := qD
            have q463 : x3_2 < (l0.length : Int) := qD
            obtain ⟨ad463, A463_3, c463_3, e463, hx463_0, hx463_1, hx463_2, hx463_3, hl463_3, hi463_3⟩ := at_T65 HR0.out x3_2 p463 q463
            cases e463
            replace hx463_0 := pw_cell_below HB.out hx463_0
            replace hx463_1 := pw_cell_below HB.out hx463_1
            replace hx463_2 := pw_cell_below HB.out hx463_2
            replace hx463_3 := pw_cell_below HB.out hx463_3
            have HR463_3 := Aside0.mk hi463_3
            have HC463_3 := Aside0.mk hl463_3
            clear hi463_3 hl463_3
            replace p463 := eq_true p463
            replace q463 := eq_true q463
            go_wp2_with (first | ((with_reducible refine gate_dst (N := 4) rfl ?_); (try (refine gate_guard (by rfl) ?_; dsimp only)); refine box_event ?hg (N := 4) ?hd (cs := #[.int .i64 0, .int .i64 0, .int .i64 0, .slice none 0 0]) (t := 65) ?hr ?_; (case hd => rfl); (case hg => rfl); (case hr => first | (go_simp; done) | (go_simp; rfl)); intro gb464 hg w12 hbox hb; have BK464 := Aside0.mk (hbox); have GW464 := geS hg; have GE464 := geS hg; replace HB := bst hb; clear hb hbox hg; obtain ⟨hcz13_0, hcz13_1, hcz13_2, hcz13_3, hfz13_0, hfz13_1, hfz13_2, hfz13_3⟩ := cells4 BK464.out) | (refine gl (some 24) #[.agg #[.int .i64 ((rd_T65 l0 x3_2).f0), .int .i64 ((rd_T65 l0 x3_2).f1), .int .i64 ((rd_T65 l0 x3_2).f2), .slice A463_3 ((rd_T65 l0 x3_2).f3).length c463_3]] Tryd.func79 ?_; (with_reducible refine (whirligigref22_branch.calls k2 ((rd_T65 l0 x3_2).f0) ((rd_T65 l0 x3_2).f1) ((rd_T65 l0 x3_2).f2) _ _ ((rd_T65 l0 x3_2).f3) true _ ?side1 ?side2 A7.out).mono ?_); (case side1 => exact Kd.C_below HR463_3.out qB); (case side2 => exact HC463_3.out); rintro e w14 ⟨rfl, hb⟩; refine ⟨_, rfl, ?_⟩; replace BK464 := kp gb464 (.cells #[.int .i64 ((rd_T65 l0 x3_2).f0), .int .i64 ((rd_T65 l0 x3_2).f1), .int .i64 ((rd_T65 l0 x3_2).f2), .slice A463_3 ((rd_T65 l0 x3_2).f3).length c463_3] 65 (0, 0)) hb; replace HB := bst hb; (try clear hb); obtain ⟨hcz15_0, hcz15_1, hcz15_2, hcz15_3, hfz15_0, hfz15_1, hfz15_2, hfz15_3⟩ := cells4 BK464.out))
            go_roundg k2
            case measure => have := HJ1.out; have := HK2.out; omega
            case rel => exact ⟨(wrap64 (x3_2 + 1)), (by first | rfl | (simp; done) | (simp [*]; done)), H', ⟨by have := HJ1.out; have := HK2.out; omega⟩, ⟨qB⟩⟩
           ·rw [if_neg c11] at H
            have c11b0 := beq_eq_false_iff_ne.mpr c11
            have c11b1 := bne_iff_ne.mpr c11
            obtain rfl := Option.some.inj H
            have p463 : 0 ≤ (x3_2 : Int) := qD
            have q463 : x3_2 < (l0.length : Int) := qD
            obtain ⟨ad463, A463_3, c463_3, e463, hx463_0, hx463_1, hx463_2, hx463_3, hl463_3, hi463_3⟩ := at_T65 HR0.out x3_2 p463 q463
            cases e463
            replace hx463_0 := pw_cell_below HB.out hx463_0
            replace hx463_1 := pw_cell_below HB.out hx463_1
            replace hx463_2 := pw_cell_below HB.out hx463_2
            replace hx463_3 := pw_cell_below HB.out hx463_3
            have HR463_3 := Aside0.mk hi463_3
            have HC463_3 := Aside0.mk hl463_3
            clear hi463_3 hl463_3
            replace p463 := eq_true p463
            replace q463 := eq_true q463
            go_wp2_with (first | ((with_reducible refine gate_dst (N := 4) rfl ?_); (try (refine gate_guard (by rfl) ?_; dsimp only)); refine box_event ?hg (N := 4) ?hd (cs := #[.int .i64 0, .int .i64 0, .int .i64 0, .slice none 0 0]) (t := 65) ?hr ?_; (case hd => rfl); (case hg => rfl); (case hr => first | (go_simp; done) | (go_simp; rfl)); intro gb464 hg w16 hbox hb; have BK464 := Aside0.mk (hbox); have GW464 := geS hg; have GE464 := geS hg; replace HB := bst hb; clear hb hbox hg; obtain ⟨hcz17_0, hcz17_1, hcz17_2, hcz17_3, hfz17_0, hfz17_1, hfz17_2, hfz17_3⟩ := cells4 BK464.out) | (refine gl (some 24) #[.agg #[.int .i64 ((rd_T65 l0 x3_2).f0), .int .i64 ((rd_T65 l0 x3_2).f1), .int .i64 ((rd_T65 l0 x3_2).f2), .slice A463_3 ((rd_T65 l0 x3_2).f3).length c463_3]] Tryd.func79 ?_; (with_reducible refine (whirligigref22_branch.calls k2 ((rd_T65 l0 x3_2).f0) ((rd_T65 l0 x3_2).f1) ((rd_T65 l0 x3_2).f2) _ _ ((rd_T65 l0 x3_2).f3) true _ ?side1 ?side2 A7.out).mono ?_); (case side1 => exact Kd.C_below HR463_3.out qB); (case side2 => exact HC463_3.out); rintro e w18 ⟨rfl, hb⟩; refine ⟨_, rfl, ?_⟩; replace BK464 := kp gb464 (.cells #[.int .i64 ((rd_T65 l0 x3_2).f0), .int .i64 ((rd_T65 l0 x3_2).f1), .int .i64 ((rd_T65 l0 x3_2).f2), .slice A463_3 ((rd_T65 l0 x3_2).f3).length c463_3] 65 (0, 0)) hb; replace HB := bst hb; (try clear hb); obtain ⟨hcz19_0, hcz19_1, hcz19_2, hcz19_3, hfz19_0, hfz19_1, hfz19_2, hfz19_3⟩ := cells4 BK464.out))
            go_ret
            exact ⟨qR, qB⟩
          ·rw [if_neg c10] at H
           have c10b0 := beq_eq_false_iff_ne.mpr c10
           have c10b1 := bne_iff_ne.mpr c10
           obtain rfl := Option.some.inj H
           have p463 : 0 ≤ (x3_2 : Int) := qD
           have q463 : x3_2 < (l0.length : Int) := qD
           obtain ⟨ad463, A463_3, c463_3, e463, hx463_0, hx463_1, hx463_2, hx463_3, hl463_3, hi463_3⟩ := at_T65 HR0.out x3_2 p463 q463
           cases e463
           replace hx463_0 := pw_cell_below HB.out hx463_0
           replace hx463_1 := pw_cell_below HB.out hx463_1
           replace hx463_2 := pw_cell_below HB.out hx463_2
           replace hx463_3 := pw_cell_below HB.out hx463_3
           have HR463_3 := Aside0.mk hi463_3
           have HC463_3 := Aside0.mk hl463_3
           clear hi463_3 hl463_3
           replace p463 := eq_true p463
           replace q463 := eq_true q463
           go_wp2_with (first | ((with_reducible refine gate_dst (N := 4) rfl ?_); (try (refine gate_guard (by rfl) ?_; dsimp only)); refine box_event ?hg (N := 4) ?hd (cs := #[.int .i64 0, .int .i64 0, .int .i64 0, .slice none 0 0]) (t := 65) ?hr ?_; (case hd => rfl); (case hg => rfl); (case hr => first | (go_simp; done) | (go_simp; rfl)); intro gb464 hg w20 hbox hb; have BK464 := Aside0.mk (hbox); have GW464 := geS hg; have GE464 := geS hg; replace HB := bst hb; clear hb hbox hg; obtain ⟨hcz21_0, hcz21_1, hcz21_2, hcz21_3, hfz21_0, hfz21_1, hfz21_2, hfz21_3⟩ := cells4 BK464.out) | (refine gl (some 24) #[.agg #[.int .i64 ((rd_T65 l0 x3_2).f0), .int .i64 ((rd_T65 l0 x3_2).f1), .int .i64 ((rd_T65 l0 x3_2).f2), .slice A463_3 ((rd_T65 l0 x3_2).f3).length c463_3]] Tryd.func79 ?_; (with_reducible refine (whirligigref22_branch.calls k2 ((rd_T65 l0 x3_2).f0) ((rd_T65 l0 x3_2).f1) ((rd_T65 l0 x3_2).f2) _ _ ((rd_T65 l0 x3_2).f3) true _ ?side1 ?side2 A7.out).mono ?_); (case side1 => exact Kd.C_below HR463_3.out qB); (case side2 => exact HC463_3.out); rintro e w22 ⟨rfl, hb⟩; refine ⟨_, rfl, ?_⟩; replace BK464 := kp gb464 (.cells #[.int .i64 ((rd_T65 l0 x3_2).f0), .int .i64 ((rd_T65 l0 x3_2).f1), .int .i64 ((rd_T65 l0 x3_2).f2), .slice A463_3 ((rd_T65 l0 x3_2).f3).length c463_3] 65 (0, 0)) hb; replace HB := bst hb; (try clear hb); obtain ⟨hcz23_0, hcz23_1, hcz23_2, hcz23_3, hfz23_0, hfz23_1, hfz23_2, hfz23_3⟩ := cells4 BK464.out))
           go_ret
           exact ⟨qR, qB⟩
         ·rw [if_neg c9] at H
          have c9b0 := beq_eq_false_iff_ne.mpr c9
          have c9b1 := bne_iff_ne.mpr c9
          have HC24 := Aside0.mk H
          clear H
          have p463 : 0 ≤ (x3_2 : Int) := qD
          have q463 : x3_2 < (l0.length : Int) := qD
          obtain ⟨ad463, A463_3, c463_3, e463, hx463_0, hx463_1, hx463_2, hx463_3, hl463_3, hi463_3⟩ := at_T65 HR0.out x3_2 p463 q463
          cases e463
          replace hx463_0 := pw_cell_below HB.out hx463_0
          replace hx463_1 := pw_cell_below HB.out hx463_1
          replace hx463_2 := pw_cell_below HB.out hx463_2
          replace hx463_3 := pw_cell_below HB.out hx463_3
          have HR463_3 := Aside0.mk hi463_3
          have HC463_3 := Aside0.mk hl463_3
          clear hi463_3 hl463_3
          replace p463 := eq_true p463
          replace q463 := eq_true q463
          go_upto_region 12 with (first | ((with_reducible refine gate_dst (N := 4) rfl ?_); (try (refine gate_guard (by rfl) ?_; dsimp only)); refine box_event ?hg (N := 4) ?hd (cs := #[.int .i64 0, .int .i64 0, .int .i64 0, .slice none 0 0]) (t := 65) ?hr ?_; (case hd => rfl); (case hg => rfl); (case hr => first | (go_simp; done) | (go_simp; rfl)); intro gb464 hg w25 hbox hb; have BK464 := Aside0.mk (hbox); have GW464 := geS hg; have GE464 := geS hg; replace HB := bst hb; clear hb hbox hg; obtain ⟨hcz26_0, hcz26_1, hcz26_2, hcz26_3, hfz26_0, hfz26_1, hfz26_2, hfz26_3⟩ := cells4 BK464.out) | (refine gl (some 24) #[.agg #[.int .i64 ((rd_T65 l0 x3_2).f0), .int .i64 ((rd_T65 l0 x3_2).f1), .int .i64 ((rd_T65 l0 x3_2).f2), .slice A463_3 ((rd_T65 l0 x3_2).f3).length c463_3]] Tryd.func79 ?_; (with_reducible refine (whirligigref22_branch.calls k2 ((rd_T65 l0 x3_2).f0) ((rd_T65 l0 x3_2).f1) ((rd_T65 l0 x3_2).f2) _ _ ((rd_T65 l0 x3_2).f3) true _ ?side1 ?side2 A7.out).mono ?_); (case side1 => exact Kd.C_below HR463_3.out qB); (case side2 => exact HC463_3.out); rintro e w27 ⟨rfl, hb⟩; refine ⟨_, rfl, ?_⟩; replace BK464 := kp gb464 (.cells #[.int .i64 ((rd_T65 l0 x3_2).f0), .int .i64 ((rd_T65 l0 x3_2).f1), .int .i64 ((rd_T65 l0 x3_2).f2), .slice A463_3 ((rd_T65 l0 x3_2).f3).length c463_3] 65 (0, 0)) hb; replace HB := bst hb; (try clear hb)))
          (try simp only [Act.put, List.setIfInBounds_toArray, List.set_cons_zero, List.set_cons_succ])
          go_cut [67] (fun v67 wc => ∃ (kq : Nat) (x67_23 : Bool), v67 = .bool x67_23 ∧ Aside0 (whirligigref22_Right.j2 kq l0 x3_2 x67_23 ((rd_T65 l0 x3_2).f0) ((rd_T65 l0 x3_2).f1) ((rd_T65 l0 x3_2).f2) ((rd_T65 l0 x3_2).f3) = some r) ∧ Aside0 (kq ≤ k2) ∧ Aside0 (wc.heap[gb464]? = some (.cells #[.int .i64 ((rd_T65 l0 x3_2).f0), .int .i64 ((rd_T65 l0 x3_2).f1), .int .i64 ((rd_T65 l0 x3_2).f2), (.slice A463_3 ((rd_T65 l0 x3_2).f3).length c463_3)] 65 (0, 0))) ∧ Aside0 (Below w.heap.size w wc))
          case first =>
           have H := HC24.out
           clear HC24
           by_cases c28 : ((rd_T65 l0 x3_2).f0) < 0
           ·rw [if_pos c28] at H
            have c28b0 := decide_eq_true c28
            clear c28
            (first | rw [c28b0] | (simp only [i64_w, i32_w]; rw [c28b0]) | skip)
            have H' := Aside0.mk H
            clear H
            try go_wp2
            replace BK464 := Aside0.mk (blk_drew BK464.out)
            replace HB := Aside0.mk (below_drew1 HB.out)
            refine start_ (n := 32) (S := fun w' => w'.cell? ⟨gb464, 0, none⟩ = some (.int .i64 ((rd_T65 l0 x3_2).f0)) ∧ w'.cell? ⟨gb464, 1, none⟩ = some (.int .i64 ((rd_T65 l0 x3_2).f1)) ∧ w'.cell? ⟨gb464, 2, none⟩ = some (.int .i64 ((rd_T65 l0 x3_2).f2)) ∧ w'.cell? ⟨gb464, 3, none⟩ = some (.slice A463_3 ((rd_T65 l0 x3_2).f3).length c463_3)) (ds := []) #[false, false, false, false, false, false, false, false, false, false, false, false, false, false, false, false, false, false, false, false, false, false, false, false, false, false, false, false, false, false, false, false] (by kernel_rfl) rfl rfl ⟨(blk_cell BK464.out 0).trans rfl, (blk_cell BK464.out 1).trans rfl, (blk_cell BK464.out 2).trans rfl, (blk_cell BK464.out 3).trans rfl⟩ (fun hHeld => ?_); refine with_tabW whirligigref22_Right.tab12 whirligigref22_Right.bits12 (fun HT_ HW_ => ?_)
            generalize w27.drew = w29 at BK464 HB hHeld ⊢
            refine pu 0 36 ?_; refine tk 1 37 ?_
            refine pu 2 38 ?_; refine pu 3 39 ?_
            refine po 4 40 ?_; refine po 5 41 ?_
            refine po 6 42 ?_; refine po 7 43 ?_
            refine pu 8 44 ?_; refine pu 9 45 ?_
            refine po 10 46 ?_; refine po 11 47 ?_
            refine po 12 48 ?_; refine pu 13 49 ?_
            refine pu 14 50 ?_; refine po 15 51 ?_
            refine po 16 52 ?_; refine po 17 53 ?_
            refine po 18 54 ?_; refine po 19 55 ?_
            refine po 20 56 ?_; refine po 21 57 ?_
            refine po 22 58 ?_; refine po 23 59 ?_
            refine pu 24 60 ?_; refine pu 25 61 ?_
            refine po 26 62 ?_; refine po 27 63 ?_
            refine po 28 64 ?_; refine po 29 65 ?_
            refine po 30 66 ?_; refine pu 31 67 ?_
            refine done_ (done_of HT_.out (by kernel_rfl)) ?_
            try go_wp2
            go_meet
            case rel => exact ⟨_, (true), (by first | rfl | (simp; done) | (simp [*]; done)), H', ⟨by have := HJ1.out; have := HK2.out; first | omega | exact Nat.le_refl _⟩, ⟨qK⟩, ⟨qB⟩⟩
           ·rw [if_neg c28] at H
            have c28b0 := decide_eq_false c28
            clear c28
            (first | rw [c28b0] | (simp only [i64_w, i32_w]; rw [c28b0]) | skip)
            by_cases c30 : ((rd_T65 l0 x3_2).f0) ≥ x3_2
            ·rw [if_pos c30] at H
             have c30b0 := decide_eq_true c30
             clear c30
             have H' := Aside0.mk H
             clear H
             try go_wp2
             replace BK464 := Aside0.mk (blk_drew BK464.out)
             replace HB := Aside0.mk (below_drew1 HB.out)
             refine start_ (n := 32) (S := fun w' => w'.cell? ⟨gb464, 0, none⟩ = some (.int .i64 ((rd_T65 l0 x3_2).f0)) ∧ w'.cell? ⟨gb464, 1, none⟩ = some (.int .i64 ((rd_T65 l0 x3_2).f1)) ∧ w'.cell? ⟨gb464, 2, none⟩ = some (.int .i64 ((rd_T65 l0 x3_2).f2)) ∧ w'.cell? ⟨gb464, 3, none⟩ = some (.slice A463_3 ((rd_T65 l0 x3_2).f3).length c463_3)) (ds := []) #[false, false, false, false, false, false, false, false, false, false, false, false, false, false, false, false, false, false, false, false, false, false, false, false, false, false, false, false, false, false, false, false] (by kernel_rfl) rfl rfl ⟨(blk_cell BK464.out 0).trans rfl, (blk_cell BK464.out 1).trans rfl, (blk_cell BK464.out 2).trans rfl, (blk_cell BK464.out 3).trans rfl⟩ (fun hHeld => ?_); refine with_tabW whirligigref22_Right.tab12 whirligigref22_Right.bits12 (fun HT_ HW_ => ?_)
             generalize w27.drew = w31 at BK464 HB hHeld ⊢
             refine pu 0 36 ?_; refine tk 1 37 ?_
             refine pu 2 38 ?_; refine pu 3 39 ?_
             refine pu 4 40 ?_; refine pu 6 42 ?_
             refine tk 5 41 ?_; refine pu 7 43 ?_
             refine pu 8 44 ?_; refine pu 9 45 ?_
             refine po 10 46 ?_; refine po 11 47 ?_
             refine po 12 48 ?_; refine pu 13 49 ?_
             refine pu 14 50 ?_; refine po 15 51 ?_
             refine po 16 52 ?_; refine po 17 53 ?_
             refine po 18 54 ?_; refine po 19 55 ?_
             refine po 20 56 ?_; refine po 21 57 ?_
             refine po 22 58 ?_; refine po 23 59 ?_
             refine pu 24 60 ?_; refine pu 25 61 ?_
             refine po 26 62 ?_; refine po 27 63 ?_
             refine po 28 64 ?_; refine po 29 65 ?_
             refine po 30 66 ?_; refine pu 31 67 ?_
             refine done_ (done_of HT_.out (by kernel_rfl)) ?_
             try go_wp2
             go_meet
             case rel => exact ⟨_, (true), (by first | rfl | (simp; done) | (simp [*]; done)), H', ⟨by have := HJ1.out; have := HK2.out; first | omega | exact Nat.le_refl _⟩, ⟨qK⟩, ⟨qB⟩⟩
            ·rw [if_neg c30] at H
             have c30b0 := decide_eq_false c30
             clear c30
             by_cases c32 : ((rd_T65 l0 x3_2).f1) < 0
             ·rw [if_pos c32] at H
              have c32b0 := decide_eq_true c32
              clear c32
              have H' := Aside0.mk H
              clear H
              try go_wp2
              replace BK464 := Aside0.mk (blk_drew BK464.out)
              replace HB := Aside0.mk (below_drew1 HB.out)
              refine start_ (n := 32) (S := fun w' => w'.cell? ⟨gb464, 0, none⟩ = some (.int .i64 ((rd_T65 l0 x3_2).f0)) ∧ w'.cell? ⟨gb464, 1, none⟩ = some (.int .i64 ((rd_T65 l0 x3_2).f1)) ∧ w'.cell? ⟨gb464, 2, none⟩ = some (.int .i64 ((rd_T65 l0 x3_2).f2)) ∧ w'.cell? ⟨gb464, 3, none⟩ = some (.slice A463_3 ((rd_T65 l0 x3_2).f3).length c463_3)) (ds := []) #[false, false, false, false, false, false, false, false, false, false, false, false, false, false, false, false, false, false, false, false, false, false, false, false, false, false, false, false, false, false, false, false] (by kernel_rfl) rfl rfl ⟨(blk_cell BK464.out 0).trans rfl, (blk_cell BK464.out 1).trans rfl, (blk_cell BK464.out 2).trans rfl, (blk_cell BK464.out 3).trans rfl⟩ (fun hHeld => ?_); refine with_tabW whirligigref22_Right.tab12 whirligigref22_Right.bits12 (fun HT_ HW_ => ?_)
              generalize w27.drew = w33 at BK464 HB hHeld ⊢
              refine pu 0 36 ?_; refine tk 1 37 ?_
              refine pu 2 38 ?_; refine pu 3 39 ?_
              refine pu 4 40 ?_; refine pu 6 42 ?_
              refine tk 5 41 ?_; refine pu 7 43 ?_
              refine pu 8 44 ?_; refine pu 9 45 ?_
              refine pu 10 46 ?_; refine tk 11 47 ?_
              refine pu 12 48 ?_; refine pu 13 49 ?_
              refine pu 14 50 ?_; refine po 15 51 ?_
              refine po 16 52 ?_; refine po 17 53 ?_
              refine po 18 54 ?_; refine po 19 55 ?_
              refine po 20 56 ?_; refine po 21 57 ?_
              refine po 22 58 ?_; refine po 23 59 ?_
              refine pu 24 60 ?_; refine pu 25 61 ?_
              refine po 26 62 ?_; refine po 27 63 ?_
              refine po 28 64 ?_; refine po 29 65 ?_
              refine po 30 66 ?_; refine pu 31 67 ?_
              refine done_ (done_of HT_.out (by kernel_rfl)) ?_
              try go_wp2
              go_meet
              case rel => exact ⟨_, (true), (by first | rfl | (simp; done) | (simp [*]; done)), H', ⟨by have := HJ1.out; have := HK2.out; first | omega | exact Nat.le_refl _⟩, ⟨qK⟩, ⟨qB⟩⟩
             ·rw [if_neg c32] at H
              have c32b0 := decide_eq_false c32
              clear c32
              by_cases c34 : 0 ≤ ((rd_T65 l0 x3_2).f0)
              ·rw [if_pos c34] at H
               have c34b0 := decide_eq_true c34
               clear c34
               by_cases c35 : ((rd_T65 l0 x3_2).f0) < (l0.length : Int)
               ·rw [if_pos c35] at H
                have c35b0 := decide_eq_true c35
                clear c35
                by_cases c36 : ((rd_T65 l0 x3_2).f1) ≥ ((rd_T65 l0 ((rd_T65 l0 x3_2).f0)).f2)
                ·rw [if_pos c36] at H
                 have c36b0 := decide_eq_true c36
                 clear c36
                 have H' := Aside0.mk H
                 clear H
                 try go_wp2
                 replace BK464 := Aside0.mk (blk_drew BK464.out)
                 replace HB := Aside0.mk (below_drew1 HB.out)
                 have p466 : 0 ≤ (((rd_T65 l0 x3_2).f0) : Int) := qD
                 have q466 : ((rd_T65 l0 x3_2).f0) < (l0.length : Int) := qD
                 obtain ⟨ad466, A466_3, c466_3, e466, hx466_0, hx466_1, hx466_2, hx466_3, hl466_3, hi466_3⟩ := at_T65 HR0.out ((rd_T65 l0 x3_2).f0) p466 q466
                 have hw466_3 := hx466_3
                 have hw466_2 := hx466_2
                 have hw466_1 := hx466_1
                 have hw466_0 := hx466_0
                 obtain rfl : ad463 = ad466 := (by injection e466)
                 replace hx466_0 := pw_cell_below HB.out hx466_0
                 replace hx466_1 := pw_cell_below HB.out hx466_1
                 replace hx466_2 := pw_cell_below HB.out hx466_2
                 replace hx466_3 := pw_cell_below HB.out hx466_3
                 have HR466_3 := Aside0.mk hi466_3
                 have HC466_3 := Aside0.mk hl466_3
                 clear hi466_3 hl466_3
                 replace p466 := eq_true p466
                 replace q466 := eq_true q466
                 refine start_ (n := 32) (S := fun w' => w'.cell? ⟨gb464, 0, none⟩ = some (.int .i64 ((rd_T65 l0 x3_2).f0)) ∧ w'.cell? ⟨gb464, 1, none⟩ = some (.int .i64 ((rd_T65 l0 x3_2).f1)) ∧ w'.cell? ⟨gb464, 2, none⟩ = some (.int .i64 ((rd_T65 l0 x3_2).f2)) ∧ w'.cell? ⟨gb464, 3, none⟩ = some (.slice A463_3 ((rd_T65 l0 x3_2).f3).length c463_3) ∧ w'.cell? (ad463.add ((((rd_T65 l0 x3_2).f0)).toNat * 4)) = some (.int .i64 ((rd_T65 l0 ((rd_T65 l0 x3_2).f0)).f0)) ∧ w'.cell? ⟨(ad463.add ((((rd_T65 l0 x3_2).f0)).toNat * 4)).block, (ad463.add ((((rd_T65 l0 x3_2).f0)).toNat * 4)).off + 1, none⟩ = some (.int .i64 ((rd_T65 l0 ((rd_T65 l0 x3_2).f0)).f1)) ∧ w'.cell? ⟨(ad463.add ((((rd_T65 l0 x3_2).f0)).toNat * 4)).block, (ad463.add ((((rd_T65 l0 x3_2).f0)).toNat * 4)).off + 2, none⟩ = some (.int .i64 ((rd_T65 l0 ((rd_T65 l0 x3_2).f0)).f2)) ∧ w'.cell? ⟨(ad463.add ((((rd_T65 l0 x3_2).f0)).toNat * 4)).block, (ad463.add ((((rd_T65 l0 x3_2).f0)).toNat * 4)).off + 3, none⟩ = some (.slice A466_3 ((rd_T65 l0 ((rd_T65 l0 x3_2).f0)).f3).length c466_3)) (ds := []) #[false, false, false, false, false, false, false, false, false, false, false, false, false, false, false, false, false, false, false, false, false, false, false, false, false, false, false, false, false, false, false, false] (by kernel_rfl) rfl rfl ⟨(blk_cell BK464.out 0).trans rfl, (blk_cell BK464.out 1).trans rfl, (blk_cell BK464.out 2).trans rfl, (blk_cell BK464.out 3).trans rfl, ((HB.out.cell (World.block_lt_of_cell? w _ hw466_0)).trans hw466_0), ((HB.out.cell (World.block_lt_of_cell? w _ hw466_1)).trans hw466_1), ((HB.out.cell (World.block_lt_of_cell? w _ hw466_2)).trans hw466_2), ((HB.out.cell (World.block_lt_of_cell? w _ hw466_3)).trans hw466_3)⟩ (fun hHeld => ?_); refine with_tabW whirligigref22_Right.tab12 whirligigref22_Right.bits12 (fun HT_ HW_ => ?_)
                 generalize w27.drew = w37 at BK464 HB HR466_3 hx466_0 hx466_1 hx466_2 hx466_3 hHeld ⊢
                 refine pu 0 36 ?_; refine tk 1 37 ?_
                 refine pu 2 38 ?_; refine pu 3 39 ?_
                 refine pu 4 40 ?_; refine pu 6 42 ?_
                 refine tk 5 41 ?_; refine pu 7 43 ?_
                 refine pu 8 44 ?_; refine pu 9 45 ?_
                 refine pu 10 46 ?_; refine tk 11 47 ?_
                 refine pu 12 48 ?_; refine pu 13 49 ?_
                 refine pu 14 50 ?_; refine pu 15 51 ?_
                 refine pu 17 53 ?_; refine pu 18 54 ?_
                 refine tk 16 52 ?_; refine tk 19 55 ?_
                 refine pu 20 56 ?_; refine pu 21 57 ?_
                 refine tk 22 58 ?_; refine pu 23 59 ?_
                 refine pu 24 60 ?_; refine pu 25 61 ?_
                 refine po 26 62 ?_; refine po 27 63 ?_
                 refine po 28 64 ?_; refine po 29 65 ?_
                 refine po 30 66 ?_; refine pu 31 67 ?_
                 refine done_ (done_of HT_.out (by kernel_rfl)) ?_
                 try go_wp2
                 go_meet
                 case rel => exact ⟨_, (true), (by first | rfl | (simp; done) | (simp [*]; done)), H', ⟨by have := HJ1.out; have := HK2.out; first | omega | exact Nat.le_refl _⟩, ⟨qK⟩, ⟨qB⟩⟩
                ·rw [if_neg c36] at H
                 have c36b0 := decide_eq_false c36
                 clear c36
                 have H' := Aside0.mk H
                 clear H
                 try go_wp2
                 replace BK464 := Aside0.mk (blk_drew BK464.out)
                 replace HB := Aside0.mk (below_drew1 HB.out)
                 have p466 : 0 ≤ (((rd_T65 l0 x3_2).f0) : Int) := qD
                 have q466 : ((rd_T65 l0 x3_2).f0) < (l0.length : Int) := qD
                 obtain ⟨ad466, A466_3, c466_3, e466, hx466_0, hx466_1, hx466_2, hx466_3, hl466_3, hi466_3⟩ := at_T65 HR0.out ((rd_T65 l0 x3_2).f0) p466 q466
                 have hw466_3 := hx466_3
                 have hw466_2 := hx466_2
                 have hw466_1 := hx466_1
                 have hw466_0 := hx466_0
                 obtain rfl : ad463 = ad466 := (by injection e466)
                 replace hx466_0 := pw_cell_below HB.out hx466_0
                 replace hx466_1 := pw_cell_below HB.out hx466_1
                 replace hx466_2 := pw_cell_below HB.out hx466_2
                 replace hx466_3 := pw_cell_below HB.out hx466_3
                 have HR466_3 := Aside0.mk hi466_3
                 have HC466_3 := Aside0.mk hl466_3
                 clear hi466_3 hl466_3
                 replace p466 := eq_true p466
                 replace q466 := eq_true q466
                 refine start_ (n := 32) (S := fun w' => w'.cell? ⟨gb464, 0, none⟩ = some (.int .i64 ((rd_T65 l0 x3_2).f0)) ∧ w'.cell? ⟨gb464, 1, none⟩ = some (.int .i64 ((rd_T65 l0 x3_2).f1)) ∧ w'.cell? ⟨gb464, 2, none⟩ = some (.int .i64 ((rd_T65 l0 x3_2).f2)) ∧ w'.cell? ⟨gb464, 3, none⟩ = some (.slice A463_3 ((rd_T65 l0 x3_2).f3).length c463_3) ∧ w'.cell? (ad463.add ((((rd_T65 l0 x3_2).f0)).toNat * 4)) = some (.int .i64 ((rd_T65 l0 ((rd_T65 l0 x3_2).f0)).f0)) ∧ w'.cell? ⟨(ad463.add ((((rd_T65 l0 x3_2).f0)).toNat * 4)).block, (ad463.add ((((rd_T65 l0 x3_2).f0)).toNat * 4)).off + 1, none⟩ = some (.int .i64 ((rd_T65 l0 ((rd_T65 l0 x3_2).f0)).f1)) ∧ w'.cell? ⟨(ad463.add ((((rd_T65 l0 x3_2).f0)).toNat * 4)).block, (ad463.add ((((rd_T65 l0 x3_2).f0)).toNat * 4)).off + 2, none⟩ = some (.int .i64 ((rd_T65 l0 ((rd_T65 l0 x3_2).f0)).f2)) ∧ w'.cell? ⟨(ad463.add ((((rd_T65 l0 x3_2).f0)).toNat * 4)).block, (ad463.add ((((rd_T65 l0 x3_2).f0)).toNat * 4)).off + 3, none⟩ = some (.slice A466_3 ((rd_T65 l0 ((rd_T65 l0 x3_2).f0)).f3).length c466_3)) (ds := []) #[false, false, false, false, false, false, false, false, false, false, false, false, false, false, false, false, false, false, false, false, false, false, false, false, false, false, false, false, false, false, false, false] (by kernel_rfl) rfl rfl ⟨(blk_cell BK464.out 0).trans rfl, (blk_cell BK464.out 1).trans rfl, (blk_cell BK464.out 2).trans rfl, (blk_cell BK464.out 3).trans rfl, ((HB.out.cell (World.block_lt_of_cell? w _ hw466_0)).trans hw466_0), ((HB.out.cell (World.block_lt_of_cell? w _ hw466_1)).trans hw466_1), ((HB.out.cell (World.block_lt_of_cell? w _ hw466_2)).trans hw466_2), ((HB.out.cell (World.block_lt_of_cell? w _ hw466_3)).trans hw466_3)⟩ (fun hHeld => ?_); refine with_tabW whirligigref22_Right.tab12 whirligigref22_Right.bits12 (fun HT_ HW_ => ?_)
                 generalize w27.drew = w38 at BK464 HB HR466_3 hx466_0 hx466_1 hx466_2 hx466_3 hHeld ⊢
                 refine pu 0 36 ?_; refine tk 1 37 ?_
                 refine pu 2 38 ?_; refine pu 3 39 ?_
                 refine pu 4 40 ?_; refine pu 6 42 ?_
                 refine tk 5 41 ?_; refine pu 7 43 ?_
                 refine pu 8 44 ?_; refine pu 9 45 ?_
                 refine pu 10 46 ?_; refine tk 11 47 ?_
                 refine pu 12 48 ?_; refine pu 13 49 ?_
                 refine pu 14 50 ?_; refine pu 15 51 ?_
                 refine pu 17 53 ?_; refine pu 18 54 ?_
                 refine tk 16 52 ?_; refine tk 19 55 ?_
                 refine pu 20 56 ?_; refine pu 21 57 ?_
                 refine tk 22 58 ?_; refine pu 23 59 ?_
                 refine pu 24 60 ?_; refine pu 25 61 ?_
                 refine pu 26 62 ?_; refine pu 28 64 ?_
                 refine tk 27 63 ?_; refine tk 29 65 ?_
                 refine pu 30 66 ?_; refine pu 31 67 ?_
                 refine done_ (done_of HT_.out (by kernel_rfl)) ?_
                 try go_wp2
                 go_meet
                 case rel => exact ⟨_, (decide (((rd_T65 l0 x3_2).f2) ≤ ((rd_T65 l0 x3_2).f1))), (by first | rfl | (simp; done) | (simp [*]; done)), H', ⟨by have := HJ1.out; have := HK2.out; first | omega | exact Nat.le_refl _⟩, ⟨qK⟩, ⟨qB⟩⟩
               ·rw [if_neg c35] at H
                exact absurd H (by simp)
              ·rw [if_neg c34] at H
               exact absurd H (by simp)
          case rest =>
           clear HC24
           try clear p2
           try clear c3
           try clear c4
           try clear p4
           try clear q4
           try clear hx4
           try clear c32
           try clear c32b0
           try clear c34
           try clear c34b0
           try clear c35
           try clear c35b0
           try clear c36
           try clear c36b0
           try clear hx466_0
           try clear hx466_1
           try clear hx466_2
           try clear hx466_3
           try clear p466
           try clear q466
           obtain ⟨kq, x67_23, rfl, HA, HJ23, BK464, HB⟩ := hcut
           cases kq with
           | zero => exact absurd HA.out (by simp [whirligigref22_Right.j2])
           | succ kj23 =>
            have H := HA.out
            clear HA
            simp only [whirligigref22_Right.j2] at H
            by_cases c39 : x67_23 = true
            ·subst c39
             rw [if_pos rfl] at H
             obtain rfl := Option.some.inj H
             go_wp2
             go_ret
             exact ⟨qR, qB⟩
            ·replace c39 := Bool.eq_false_iff.mpr c39
             subst c39
             rw [if_neg (show ¬ (false = true) by decide)] at H
             replace H := Option.bind_eq_some_iff.mp H
             obtain ⟨t467, A400, H⟩ := H
             (try dsimp -simprocs only at H)
             have A40 := Aside0.mk A400
             clear A400
             by_cases c41 : 0 ≤ ((rd_T65 l0 x3_2).f1)
             ·rw [if_pos c41] at H
              have c41b0 := decide_eq_true c41
              clear c41
              by_cases c42 : ((rd_T65 l0 x3_2).f1) < (t467.length : Int)
              ·rw [if_pos c42] at H
               have c42b0 := decide_eq_true c42
               clear c42
               by_cases c43 : ((rd_T47 t467 ((rd_T65 l0 x3_2).f1)).f1) = 0
               ·rw [if_pos c43] at H
                have c43b0 := beq_iff_eq.mpr c43
                have c43b1 := bne_eq_false_iff_eq.mpr c43
                clear c43
                obtain rfl := Option.some.inj H
                try go_wp2
                replace BK464 := Aside0.mk (blk_drew BK464.out)
                replace HB := Aside0.mk (below_drew1 HB.out)
                refine start_ (n := 20) (S := fun w' => w'.cell? ⟨gb464, 0, none⟩ = some (.int .i64 ((rd_T65 l0 x3_2).f0)) ∧ w'.cell? ⟨gb464, 1, none⟩ = some (.int .i64 ((rd_T65 l0 x3_2).f1)) ∧ w'.cell? ⟨gb464, 2, none⟩ = some (.int .i64 ((rd_T65 l0 x3_2).f2)) ∧ w'.cell? ⟨gb464, 3, none⟩ = some (.slice A463_3 ((rd_T65 l0 x3_2).f3).length c463_3)) (ds := []) #[false, false, false, false, false, false, false, false, false, false, false, false, false, false, false, false, false, false, false, false] (by kernel_rfl) rfl rfl ⟨(blk_cell BK464.out 0).trans rfl, (blk_cell BK464.out 1).trans rfl, (blk_cell BK464.out 2).trans rfl, (blk_cell BK464.out 3).trans rfl⟩ (fun hHeld => ?_); refine with_tabW whirligigref22_Right.tab14 whirligigref22_Right.bits14 (fun HT_ HW_ => ?_)
                generalize wc.drew = w44 at BK464 HB hHeld ⊢
                refine pu 2 70 ?_; refine tk 0 68 ?_; refine tk 3 71 ?_
                refine onx 1 69 (fun K hK => ?_)
                refine goes_ Tryd.func43 (by kernel_rfl) rfl #[.agg #[.int .i64 ((rd_T65 l0 x3_2).f0), .int .i64 ((rd_T65 l0 x3_2).f1), .int .i64 ((rd_T65 l0 x3_2).f2), .slice A463_3 ((rd_T65 l0 x3_2).f3).length c463_3]] (by rfl) rfl rfl (by (try simp only [List.map_toArray, List.map_cons, List.map_nil]); first | done | rfl | (simp only [List.length_drop, List.length_take]; rfl)) ?_
                with_reducible refine (whirligigref22_Moves.calls kj23 ((rd_T65 l0 x3_2).f0) ((rd_T65 l0 x3_2).f1) ((rd_T65 l0 x3_2).f2) _ _ ((rd_T65 l0 x3_2).f3) t467 _ ?side1 ?side2 A40.out).mono ?_
                (case side1 => exact qC)
                (case side2 => exact HC463_3.out)
                rintro e w45 ⟨v468, rfl, ho0, hb⟩




                refine ⟨_, rfl, ?_⟩
                have HO469 := Aside0.mk (Kd.R_lower ho0 (below_size qB))
                replace BK464 := kb gb464 hb
                replace HB := bst hb
                (try clear hb)
                (try clear hb2)
                (try clear hk)
                (try clear hi)
                (try clear ho0)
                obtain ⟨Ao46, co46, eo46⟩ := Kd.R_slice HO469.out
                (first | subst eo46 | (injection eo46 with f1_ f2_ f3_; have f4_ := f1_.symm; have f5_ := f3_.symm; clear f1_ f2_ f3_; subst f4_; subst f5_))
                have p470 : 0 ≤ (((rd_T65 l0 x3_2).f1) : Int) := qD
                have q470 : ((rd_T65 l0 x3_2).f1) < (t467.length : Int) := qD
                obtain ⟨ad470, e470, hx470_0, hx470_1, hx470_2, hx470_3⟩ := at_T47 (Kd.R_reads' HO469.out).2.2 ((rd_T65 l0 x3_2).f1) p470 q470
                cases e470
                replace p470 := eq_true p470
                replace q470 := eq_true q470
                refine hK.out _ _ ⟨(blk_cell BK464.out 0).trans rfl, (blk_cell BK464.out 1).trans rfl, (blk_cell BK464.out 2).trans rfl, (blk_cell BK464.out 3).trans rfl⟩ (fun _ => ?_)
                have hHeld : (fun w' : World => w'.cell? ⟨gb464, 0, none⟩ = some (.int .i64 ((rd_T65 l0 x3_2).f0)) ∧ w'.cell? ⟨gb464, 1, none⟩ = some (.int .i64 ((rd_T65 l0 x3_2).f1)) ∧ w'.cell? ⟨gb464, 2, none⟩ = some (.int .i64 ((rd_T65 l0 x3_2).f2)) ∧ w'.cell? ⟨gb464, 3, none⟩ = some (.slice A463_3 ((rd_T65 l0 x3_2).f3).length c463_3) ∧ w'.cell? (ad470.add ((((rd_T65 l0 x3_2).f1)).toNat * 4)) = some (.int .i64 ((rd_T47 t467 ((rd_T65 l0 x3_2).f1)).f0)) ∧ w'.cell? ⟨(ad470.add ((((rd_T65 l0 x3_2).f1)).toNat * 4)).block, (ad470.add ((((rd_T65 l0 x3_2).f1)).toNat * 4)).off + 1, none⟩ = some (.int .i64 ((rd_T47 t467 ((rd_T65 l0 x3_2).f1)).f1)) ∧ w'.cell? ⟨(ad470.add ((((rd_T65 l0 x3_2).f1)).toNat * 4)).block, (ad470.add ((((rd_T65 l0 x3_2).f1)).toNat * 4)).off + 2, none⟩ = some (.string ((rd_T47 t467 ((rd_T65 l0 x3_2).f1)).f2)) ∧ w'.cell? ⟨(ad470.add ((((rd_T65 l0 x3_2).f1)).toNat * 4)).block, (ad470.add ((((rd_T65 l0 x3_2).f1)).toNat * 4)).off + 3, none⟩ = some (.int .i64 ((rd_T47 t467 ((rd_T65 l0 x3_2).f1)).f3))) w45 := ⟨(blk_cell BK464.out 0).trans rfl, (blk_cell BK464.out 1).trans rfl, (blk_cell BK464.out 2).trans rfl, (blk_cell BK464.out 3).trans rfl, hx470_0, hx470_1, hx470_2, hx470_3⟩
                refine more_ (S2 := fun w' => w'.cell? ⟨gb464, 0, none⟩ = some (.int .i64 ((rd_T65 l0 x3_2).f0)) ∧ w'.cell? ⟨gb464, 1, none⟩ = some (.int .i64 ((rd_T65 l0 x3_2).f1)) ∧ w'.cell? ⟨gb464, 2, none⟩ = some (.int .i64 ((rd_T65 l0 x3_2).f2)) ∧ w'.cell? ⟨gb464, 3, none⟩ = some (.slice A463_3 ((rd_T65 l0 x3_2).f3).length c463_3) ∧ w'.cell? (ad470.add ((((rd_T65 l0 x3_2).f1)).toNat * 4)) = some (.int .i64 ((rd_T47 t467 ((rd_T65 l0 x3_2).f1)).f0)) ∧ w'.cell? ⟨(ad470.add ((((rd_T65 l0 x3_2).f1)).toNat * 4)).block, (ad470.add ((((rd_T65 l0 x3_2).f1)).toNat * 4)).off + 1, none⟩ = some (.int .i64 ((rd_T47 t467 ((rd_T65 l0 x3_2).f1)).f1)) ∧ w'.cell? ⟨(ad470.add ((((rd_T65 l0 x3_2).f1)).toNat * 4)).block, (ad470.add ((((rd_T65 l0 x3_2).f1)).toNat * 4)).off + 2, none⟩ = some (.string ((rd_T47 t467 ((rd_T65 l0 x3_2).f1)).f2)) ∧ w'.cell? ⟨(ad470.add ((((rd_T65 l0 x3_2).f1)).toNat * 4)).block, (ad470.add ((((rd_T65 l0 x3_2).f1)).toNat * 4)).off + 3, none⟩ = some (.int .i64 ((rd_T47 t467 ((rd_T65 l0 x3_2).f1)).f3))) (fun _ h_ => ⟨h_.1, h_.2.1, h_.2.2.1, h_.2.2.2.1⟩) _ _ _ _ hHeld ?_
                clear hK K
                refine nm 69 ?_
                refine pu 4 72 ?_; refine pu 5 73 ?_
                refine tk 6 74 ?_; refine pu 7 75 ?_
                refine pu 8 76 ?_; refine po 9 77 ?_
                refine po 10 78 ?_; refine po 11 79 ?_
                refine po 12 80 ?_; refine po 13 81 ?_
                refine po 14 82 ?_; refine po 15 83 ?_
                refine po 16 84 ?_; refine po 17 85 ?_
                refine po 18 86 ?_; refine pu 19 87 ?_
                refine done_ (done_of HT_.out (by kernel_rfl)) ?_
                try go_wp2
                go_ret
                exact ⟨qR, qB⟩
               ·rw [if_neg c43] at H
                have c43b0 := beq_eq_false_iff_ne.mpr c43
                have c43b1 := bne_iff_ne.mpr c43
                by_cases c47 : 0 ≤ ((rd_T65 l0 x3_2).f0)
                ·rw [if_pos c47] at H
                 have c47b0 := decide_eq_true c47
                 clear c47
                 by_cases c48 : ((rd_T65 l0 x3_2).f0) < (l0.length : Int)
                 ·rw [if_pos c48] at H
                  have c48b0 := decide_eq_true c48
                  clear c48
                  replace H := Option.bind_eq_some_iff.mp H
                  obtain ⟨t472, A490, H⟩ := H
                  (try dsimp -simprocs only at H)
                  have A49 := Aside0.mk A490
                  clear A490
                  by_cases c50 : t472 < ((rd_T65 l0 x3_2).f1)
                  ·rw [if_pos c50] at H
                   have c50b0 := decide_eq_true c50
                   clear c50
                   obtain rfl := Option.some.inj H
                   try go_wp2
                   replace BK464 := Aside0.mk (blk_drew BK464.out)
                   replace HB := Aside0.mk (below_drew1 HB.out)
                   have p471 : 0 ≤ (((rd_T65 l0 x3_2).f0) : Int) := qD
                   have q471 : ((rd_T65 l0 x3_2).f0) < (l0.length : Int) := qD
                   obtain ⟨ad471, A471_3, c471_3, e471, hx471_0, hx471_1, hx471_2, hx471_3, hl471_3, hi471_3⟩ := at_T65 HR0.out ((rd_T65 l0 x3_2).f0) p471 q471
                   have hw471_3 := hx471_3
                   have hw471_2 := hx471_2
                   have hw471_1 := hx471_1
                   have hw471_0 := hx471_0
                   obtain rfl : ad463 = ad471 := (by injection e471)
                   replace hx471_0 := pw_cell_below HB.out hx471_0
                   replace hx471_1 := pw_cell_below HB.out hx471_1
                   replace hx471_2 := pw_cell_below HB.out hx471_2
                   replace hx471_3 := pw_cell_below HB.out hx471_3
                   have HR471_3 := Aside0.mk hi471_3
                   have HC471_3 := Aside0.mk hl471_3
                   clear hi471_3 hl471_3
                   replace p471 := eq_true p471
                   replace q471 := eq_true q471
                   refine start_ (n := 20) (S := fun w' => w'.cell? ⟨gb464, 0, none⟩ = some (.int .i64 ((rd_T65 l0 x3_2).f0)) ∧ w'.cell? ⟨gb464, 1, none⟩ = some (.int .i64 ((rd_T65 l0 x3_2).f1)) ∧ w'.cell? ⟨gb464, 2, none⟩ = some (.int .i64 ((rd_T65 l0 x3_2).f2)) ∧ w'.cell? ⟨gb464, 3, none⟩ = some (.slice A463_3 ((rd_T65 l0 x3_2).f3).length c463_3) ∧ w'.cell? (ad463.add ((((rd_T65 l0 x3_2).f0)).toNat * 4)) = some (.int .i64 ((rd_T65 l0 ((rd_T65 l0 x3_2).f0)).f0)) ∧ w'.cell? ⟨(ad463.add ((((rd_T65 l0 x3_2).f0)).toNat * 4)).block, (ad463.add ((((rd_T65 l0 x3_2).f0)).toNat * 4)).off + 1, none⟩ = some (.int .i64 ((rd_T65 l0 ((rd_T65 l0 x3_2).f0)).f1)) ∧ w'.cell? ⟨(ad463.add ((((rd_T65 l0 x3_2).f0)).toNat * 4)).block, (ad463.add ((((rd_T65 l0 x3_2).f0)).toNat * 4)).off + 2, none⟩ = some (.int .i64 ((rd_T65 l0 ((rd_T65 l0 x3_2).f0)).f2)) ∧ w'.cell? ⟨(ad463.add ((((rd_T65 l0 x3_2).f0)).toNat * 4)).block, (ad463.add ((((rd_T65 l0 x3_2).f0)).toNat * 4)).off + 3, none⟩ = some (.slice A471_3 ((rd_T65 l0 ((rd_T65 l0 x3_2).f0)).f3).length c471_3)) (ds := []) #[false, false, false, false, false, false, false, false, false, false, false, false, false, false, false, false, false, false, false, false] (by kernel_rfl) rfl rfl ⟨(blk_cell BK464.out 0).trans rfl, (blk_cell BK464.out 1).trans rfl, (blk_cell BK464.out 2).trans rfl, (blk_cell BK464.out 3).trans rfl, ((HB.out.cell (World.block_lt_of_cell? w _ hw471_0)).trans hw471_0), ((HB.out.cell (World.block_lt_of_cell? w _ hw471_1)).trans hw471_1), ((HB.out.cell (World.block_lt_of_cell? w _ hw471_2)).trans hw471_2), ((HB.out.cell (World.block_lt_of_cell? w _ hw471_3)).trans hw471_3)⟩ (fun hHeld => ?_); refine with_tabW whirligigref22_Right.tab14 whirligigref22_Right.bits14 (fun HT_ HW_ => ?_)
                   generalize wc.drew = w51 at BK464 HB HR471_3 hx471_0 hx471_1 hx471_2 hx471_3 hHeld ⊢
                   refine pu 2 70 ?_; refine tk 0 68 ?_; refine tk 3 71 ?_
                   refine onx 1 69 (fun K hK => ?_)
                   refine goes_ Tryd.func43 (by kernel_rfl) rfl #[.agg #[.int .i64 ((rd_T65 l0 x3_2).f0), .int .i64 ((rd_T65 l0 x3_2).f1), .int .i64 ((rd_T65 l0 x3_2).f2), .slice A463_3 ((rd_T65 l0 x3_2).f3).length c463_3]] (by rfl) rfl rfl (by (try simp only [List.map_toArray, List.map_cons, List.map_nil]); first | done | rfl | (simp only [List.length_drop, List.length_take]; rfl)) ?_
                   with_reducible refine (whirligigref22_Moves.calls kj23 ((rd_T65 l0 x3_2).f0) ((rd_T65 l0 x3_2).f1) ((rd_T65 l0 x3_2).f2) _ _ ((rd_T65 l0 x3_2).f3) t467 _ ?side1 ?side2 A40.out).mono ?_
                   (case side1 => exact qC)
                   (case side2 => exact HC463_3.out)
                   rintro e w52 ⟨v468, rfl, ho0, hb⟩




                   refine ⟨_, rfl, ?_⟩
                   have HO469 := Aside0.mk (Kd.R_lower ho0 (below_size qB))
                   replace BK464 := kb gb464 hb
                   replace HB := bst hb
                   (try clear hb)
                   (try clear hb2)
                   (try clear hk)
                   (try clear hi)
                   (try clear ho0)
                   obtain ⟨Ao53, co53, eo53⟩ := Kd.R_slice HO469.out
                   (first | subst eo53 | (injection eo53 with f1_ f2_ f3_; have f4_ := f1_.symm; have f5_ := f3_.symm; clear f1_ f2_ f3_; subst f4_; subst f5_))
                   have p470 : 0 ≤ (((rd_T65 l0 x3_2).f1) : Int) := qD
                   have q470 : ((rd_T65 l0 x3_2).f1) < (t467.length : Int) := qD
                   obtain ⟨ad470, e470, hx470_0, hx470_1, hx470_2, hx470_3⟩ := at_T47 (Kd.R_reads' HO469.out).2.2 ((rd_T65 l0 x3_2).f1) p470 q470
                   cases e470
                   replace p470 := eq_true p470
                   replace q470 := eq_true q470
                   refine hK.out _ _ ⟨(blk_cell BK464.out 0).trans rfl, (blk_cell BK464.out 1).trans rfl, (blk_cell BK464.out 2).trans rfl, (blk_cell BK464.out 3).trans rfl, ((HB.out.cell (World.block_lt_of_cell? w _ hw471_0)).trans hw471_0), ((HB.out.cell (World.block_lt_of_cell? w _ hw471_1)).trans hw471_1), ((HB.out.cell (World.block_lt_of_cell? w _ hw471_2)).trans hw471_2), ((HB.out.cell (World.block_lt_of_cell? w _ hw471_3)).trans hw471_3)⟩ (fun _ => ?_)
                   have hHeld : (fun w' : World => w'.cell? ⟨gb464, 0, none⟩ = some (.int .i64 ((rd_T65 l0 x3_2).f0)) ∧ w'.cell? ⟨gb464, 1, none⟩ = some (.int .i64 ((rd_T65 l0 x3_2).f1)) ∧ w'.cell? ⟨gb464, 2, none⟩ = some (.int .i64 ((rd_T65 l0 x3_2).f2)) ∧ w'.cell? ⟨gb464, 3, none⟩ = some (.slice A463_3 ((rd_T65 l0 x3_2).f3).length c463_3) ∧ w'.cell? (ad470.add ((((rd_T65 l0 x3_2).f1)).toNat * 4)) = some (.int .i64 ((rd_T47 t467 ((rd_T65 l0 x3_2).f1)).f0)) ∧ w'.cell? ⟨(ad470.add ((((rd_T65 l0 x3_2).f1)).toNat * 4)).block, (ad470.add ((((rd_T65 l0 x3_2).f1)).toNat * 4)).off + 1, none⟩ = some (.int .i64 ((rd_T47 t467 ((rd_T65 l0 x3_2).f1)).f1)) ∧ w'.cell? ⟨(ad470.add ((((rd_T65 l0 x3_2).f1)).toNat * 4)).block, (ad470.add ((((rd_T65 l0 x3_2).f1)).toNat * 4)).off + 2, none⟩ = some (.string ((rd_T47 t467 ((rd_T65 l0 x3_2).f1)).f2)) ∧ w'.cell? ⟨(ad470.add ((((rd_T65 l0 x3_2).f1)).toNat * 4)).block, (ad470.add ((((rd_T65 l0 x3_2).f1)).toNat * 4)).off + 3, none⟩ = some (.int .i64 ((rd_T47 t467 ((rd_T65 l0 x3_2).f1)).f3)) ∧ w'.cell? (ad463.add ((((rd_T65 l0 x3_2).f0)).toNat * 4)) = some (.int .i64 ((rd_T65 l0 ((rd_T65 l0 x3_2).f0)).f0)) ∧ w'.cell? ⟨(ad463.add ((((rd_T65 l0 x3_2).f0)).toNat * 4)).block, (ad463.add ((((rd_T65 l0 x3_2).f0)).toNat * 4)).off + 1, none⟩ = some (.int .i64 ((rd_T65 l0 ((rd_T65 l0 x3_2).f0)).f1)) ∧ w'.cell? ⟨(ad463.add ((((rd_T65 l0 x3_2).f0)).toNat * 4)).block, (ad463.add ((((rd_T65 l0 x3_2).f0)).toNat * 4)).off + 2, none⟩ = some (.int .i64 ((rd_T65 l0 ((rd_T65 l0 x3_2).f0)).f2)) ∧ w'.cell? ⟨(ad463.add ((((rd_T65 l0 x3_2).f0)).toNat * 4)).block, (ad463.add ((((rd_T65 l0 x3_2).f0)).toNat * 4)).off + 3, none⟩ = some (.slice A471_3 ((rd_T65 l0 ((rd_T65 l0 x3_2).f0)).f3).length c471_3)) w52 := ⟨(blk_cell BK464.out 0).trans rfl, (blk_cell BK464.out 1).trans rfl, (blk_cell BK464.out 2).trans rfl, (blk_cell BK464.out 3).trans rfl, hx470_0, hx470_1, hx470_2, hx470_3, ((HB.out.cell (World.block_lt_of_cell? w _ hw471_0)).trans hw471_0), ((HB.out.cell (World.block_lt_of_cell? w _ hw471_1)).trans hw471_1), ((HB.out.cell (World.block_lt_of_cell? w _ hw471_2)).trans hw471_2), ((HB.out.cell (World.block_lt_of_cell? w _ hw471_3)).trans hw471_3)⟩
                   refine more_ (S2 := fun w' => w'.cell? ⟨gb464, 0, none⟩ = some (.int .i64 ((rd_T65 l0 x3_2).f0)) ∧ w'.cell? ⟨gb464, 1, none⟩ = some (.int .i64 ((rd_T65 l0 x3_2).f1)) ∧ w'.cell? ⟨gb464, 2, none⟩ = some (.int .i64 ((rd_T65 l0 x3_2).f2)) ∧ w'.cell? ⟨gb464, 3, none⟩ = some (.slice A463_3 ((rd_T65 l0 x3_2).f3).length c463_3) ∧ w'.cell? (ad470.add ((((rd_T65 l0 x3_2).f1)).toNat * 4)) = some (.int .i64 ((rd_T47 t467 ((rd_T65 l0 x3_2).f1)).f0)) ∧ w'.cell? ⟨(ad470.add ((((rd_T65 l0 x3_2).f1)).toNat * 4)).block, (ad470.add ((((rd_T65 l0 x3_2).f1)).toNat * 4)).off + 1, none⟩ = some (.int .i64 ((rd_T47 t467 ((rd_T65 l0 x3_2).f1)).f1)) ∧ w'.cell? ⟨(ad470.add ((((rd_T65 l0 x3_2).f1)).toNat * 4)).block, (ad470.add ((((rd_T65 l0 x3_2).f1)).toNat * 4)).off + 2, none⟩ = some (.string ((rd_T47 t467 ((rd_T65 l0 x3_2).f1)).f2)) ∧ w'.cell? ⟨(ad470.add ((((rd_T65 l0 x3_2).f1)).toNat * 4)).block, (ad470.add ((((rd_T65 l0 x3_2).f1)).toNat * 4)).off + 3, none⟩ = some (.int .i64 ((rd_T47 t467 ((rd_T65 l0 x3_2).f1)).f3)) ∧ w'.cell? (ad463.add ((((rd_T65 l0 x3_2).f0)).toNat * 4)) = some (.int .i64 ((rd_T65 l0 ((rd_T65 l0 x3_2).f0)).f0)) ∧ w'.cell? ⟨(ad463.add ((((rd_T65 l0 x3_2).f0)).toNat * 4)).block, (ad463.add ((((rd_T65 l0 x3_2).f0)).toNat * 4)).off + 1, none⟩ = some (.int .i64 ((rd_T65 l0 ((rd_T65 l0 x3_2).f0)).f1)) ∧ w'.cell? ⟨(ad463.add ((((rd_T65 l0 x3_2).f0)).toNat * 4)).block, (ad463.add ((((rd_T65 l0 x3_2).f0)).toNat * 4)).off + 2, none⟩ = some (.int .i64 ((rd_T65 l0 ((rd_T65 l0 x3_2).f0)).f2)) ∧ w'.cell? ⟨(ad463.add ((((rd_T65 l0 x3_2).f0)).toNat * 4)).block, (ad463.add ((((rd_T65 l0 x3_2).f0)).toNat * 4)).off + 3, none⟩ = some (.slice A471_3 ((rd_T65 l0 ((rd_T65 l0 x3_2).f0)).f3).length c471_3)) (fun _ h_ => ⟨h_.1, h_.2.1, h_.2.2.1, h_.2.2.2.1, h_.2.2.2.2.2.2.2.2.1, h_.2.2.2.2.2.2.2.2.2.1, h_.2.2.2.2.2.2.2.2.2.2.1, h_.2.2.2.2.2.2.2.2.2.2.2⟩) _ _ _ _ hHeld ?_
                   clear hK K
                   refine nm 69 ?_
                   refine pu 4 72 ?_; refine pu 5 73 ?_
                   refine tk 6 74 ?_; refine pu 7 75 ?_
                   refine pu 8 76 ?_; refine pu 9 77 ?_
                   refine pu 10 78 ?_; refine pu 16 84 ?_
                   refine tk 11 79 ?_; refine pu 12 80 ?_
                   refine tk 13 81 ?_; refine tk 14 82 ?_; refine tk 17 85 ?_
                   refine onx 15 83 (fun K hK => ?_)
                   refine goes_ Tryd.func45 (by kernel_rfl) rfl #[.agg #[.int .i64 ((rd_T65 l0 ((rd_T65 l0 x3_2).f0)).f0), .int .i64 ((rd_T65 l0 ((rd_T65 l0 x3_2).f0)).f1), .int .i64 ((rd_T65 l0 ((rd_T65 l0 x3_2).f0)).f2), .slice A471_3 ((rd_T65 l0 ((rd_T65 l0 x3_2).f0)).f3).length c471_3], .agg #[.int .i64 ((rd_T65 l0 x3_2).f0), .int .i64 ((rd_T65 l0 x3_2).f1), .int .i64 ((rd_T65 l0 x3_2).f2), .slice A463_3 ((rd_T65 l0 x3_2).f3).length c463_3]] (by rfl) rfl rfl (by (try simp only [List.map_toArray, List.map_cons, List.map_nil]); first | done | rfl | (simp only [List.length_drop, List.length_take]; rfl)) ?_
                   with_reducible refine (whirligigref22_Common.calls kj23 ((rd_T65 l0 ((rd_T65 l0 x3_2).f0)).f0) ((rd_T65 l0 ((rd_T65 l0 x3_2).f0)).f1) ((rd_T65 l0 ((rd_T65 l0 x3_2).f0)).f2) _ _ ((rd_T65 l0 ((rd_T65 l0 x3_2).f0)).f3) ((rd_T65 l0 x3_2).f0) ((rd_T65 l0 x3_2).f1) ((rd_T65 l0 x3_2).f2) _ _ ((rd_T65 l0 x3_2).f3) t472 _ ?side1 ?side2 ?side3 ?side4 A49.out).mono ?_
                   (case side1 => exact qC)
                   (case side2 => exact HC471_3.out)
                   (case side3 => exact qC)
                   (case side4 => exact HC463_3.out)
                   rintro e w54 ⟨rfl, hb⟩
                   have HS4_ := (hb.cell (World.block_lt_of_cell? _ _ (hHeld.2.2.2.2.1))).trans (hHeld.2.2.2.2.1)
                   have HS5_ := (hb.cell (World.block_lt_of_cell? _ _ (hHeld.2.2.2.2.2.1))).trans (hHeld.2.2.2.2.2.1)
                   have HS6_ := (hb.cell (World.block_lt_of_cell? _ _ (hHeld.2.2.2.2.2.2.1))).trans (hHeld.2.2.2.2.2.2.1)
                   have HS7_ := (hb.cell (World.block_lt_of_cell? _ _ (hHeld.2.2.2.2.2.2.2.1))).trans (hHeld.2.2.2.2.2.2.2.1)
                   refine ⟨_, rfl, ?_⟩
                   replace BK464 := kb gb464 hb
                   replace HO469 := rb HO469 hb
                   replace HB := bst hb
                   (try clear hb)
                   (try clear hb2)
                   (try clear hk)
                   (try clear hi)
                   refine hK.out _ _ ⟨(blk_cell BK464.out 0).trans rfl, (blk_cell BK464.out 1).trans rfl, (blk_cell BK464.out 2).trans rfl, (blk_cell BK464.out 3).trans rfl, HS4_, HS5_, HS6_, HS7_, ((HB.out.cell (World.block_lt_of_cell? w _ hw471_0)).trans hw471_0), ((HB.out.cell (World.block_lt_of_cell? w _ hw471_1)).trans hw471_1), ((HB.out.cell (World.block_lt_of_cell? w _ hw471_2)).trans hw471_2), ((HB.out.cell (World.block_lt_of_cell? w _ hw471_3)).trans hw471_3)⟩ (fun hHeld => ?_)
                   clear hK K
                   refine nm 83 ?_
                   refine pu 18 86 ?_; refine pu 19 87 ?_
                   refine done_ (done_of HT_.out (by kernel_rfl)) ?_
                   try go_wp2
                   go_ret
                   exact ⟨qR, qB⟩
                  ·rw [if_neg c50] at H
                   have c50b0 := decide_eq_false c50
                   clear c50
                   have H' := Aside0.mk H
                   clear H
                   try go_wp2
                   replace BK464 := Aside0.mk (blk_drew BK464.out)
                   replace HB := Aside0.mk (below_drew1 HB.out)
                   have p471 : 0 ≤ (((rd_T65 l0 x3_2).f0) : Int) := qD
                   have q471 : ((rd_T65 l0 x3_2).f0) < (l0.length : Int) := qD
                   obtain ⟨ad471, A471_3, c471_3, e471, hx471_0, hx471_1, hx471_2, hx471_3, hl471_3, hi471_3⟩ := at_T65 HR0.out ((rd_T65 l0 x3_2).f0) p471 q471
                   have hw471_3 := hx471_3
                   have hw471_2 := hx471_2
                   have hw471_1 := hx471_1
                   have hw471_0 := hx471_0
                   obtain rfl : ad463 = ad471 := (by injection e471)
                   replace hx471_0 := pw_cell_below HB.out hx471_0
                   replace hx471_1 := pw_cell_below HB.out hx471_1
                   replace hx471_2 := pw_cell_below HB.out hx471_2
                   replace hx471_3 := pw_cell_below HB.out hx471_3
                   have HR471_3 := Aside0.mk hi471_3
                   have HC471_3 := Aside0.mk hl471_3
                   clear hi471_3 hl471_3
                   replace p471 := eq_true p471
                   replace q471 := eq_true q471
                   refine start_ (n := 20) (S := fun w' => w'.cell? ⟨gb464, 0, none⟩ = some (.int .i64 ((rd_T65 l0 x3_2).f0)) ∧ w'.cell? ⟨gb464, 1, none⟩ = some (.int .i64 ((rd_T65 l0 x3_2).f1)) ∧ w'.cell? ⟨gb464, 2, none⟩ = some (.int .i64 ((rd_T65 l0 x3_2).f2)) ∧ w'.cell? ⟨gb464, 3, none⟩ = some (.slice A463_3 ((rd_T65 l0 x3_2).f3).length c463_3) ∧ w'.cell? (ad463.add ((((rd_T65 l0 x3_2).f0)).toNat * 4)) = some (.int .i64 ((rd_T65 l0 ((rd_T65 l0 x3_2).f0)).f0)) ∧ w'.cell? ⟨(ad463.add ((((rd_T65 l0 x3_2).f0)).toNat * 4)).block, (ad463.add ((((rd_T65 l0 x3_2).f0)).toNat * 4)).off + 1, none⟩ = some (.int .i64 ((rd_T65 l0 ((rd_T65 l0 x3_2).f0)).f1)) ∧ w'.cell? ⟨(ad463.add ((((rd_T65 l0 x3_2).f0)).toNat * 4)).block, (ad463.add ((((rd_T65 l0 x3_2).f0)).toNat * 4)).off + 2, none⟩ = some (.int .i64 ((rd_T65 l0 ((rd_T65 l0 x3_2).f0)).f2)) ∧ w'.cell? ⟨(ad463.add ((((rd_T65 l0 x3_2).f0)).toNat * 4)).block, (ad463.add ((((rd_T65 l0 x3_2).f0)).toNat * 4)).off + 3, none⟩ = some (.slice A471_3 ((rd_T65 l0 ((rd_T65 l0 x3_2).f0)).f3).length c471_3)) (ds := []) #[false, false, false, false, false, false, false, false, false, false, false, false, false, false, false, false, false, false, false, false] (by kernel_rfl) rfl rfl ⟨(blk_cell BK464.out 0).trans rfl, (blk_cell BK464.out 1).trans rfl, (blk_cell BK464.out 2).trans rfl, (blk_cell BK464.out 3).trans rfl, ((HB.out.cell (World.block_lt_of_cell? w _ hw471_0)).trans hw471_0), ((HB.out.cell (World.block_lt_of_cell? w _ hw471_1)).trans hw471_1), ((HB.out.cell (World.block_lt_of_cell? w _ hw471_2)).trans hw471_2), ((HB.out.cell (World.block_lt_of_cell? w _ hw471_3)).trans hw471_3)⟩ (fun hHeld => ?_); refine with_tabW whirligigref22_Right.tab14 whirligigref22_Right.bits14 (fun HT_ HW_ => ?_)
                   generalize wc.drew = w55 at BK464 HB HR471_3 hx471_0 hx471_1 hx471_2 hx471_3 hHeld ⊢
                   refine pu 2 70 ?_; refine tk 0 68 ?_; refine tk 3 71 ?_
                   refine onx 1 69 (fun K hK => ?_)
                   refine goes_ Tryd.func43 (by kernel_rfl) rfl #[.agg #[.int .i64 ((rd_T65 l0 x3_2).f0), .int .i64 ((rd_T65 l0 x3_2).f1), .int .i64 ((rd_T65 l0 x3_2).f2), .slice A463_3 ((rd_T65 l0 x3_2).f3).length c463_3]] (by rfl) rfl rfl (by (try simp only [List.map_toArray, List.map_cons, List.map_nil]); first | done | rfl | (simp only [List.length_drop, List.length_take]; rfl)) ?_
                   with_reducible refine (whirligigref22_Moves.calls kj23 ((rd_T65 l0 x3_2).f0) ((rd_T65 l0 x3_2).f1) ((rd_T65 l0 x3_2).f2) _ _ ((rd_T65 l0 x3_2).f3) t467 _ ?side1 ?side2 A40.out).mono ?_
                   (case side1 => exact qC)
                   (case side2 => exact HC463_3.out)
                   rintro e w56 ⟨v468, rfl, ho0, hb⟩




                   refine ⟨_, rfl, ?_⟩
                   have HO469 := Aside0.mk (Kd.R_lower ho0 (below_size qB))
                   replace BK464 := kb gb464 hb
                   replace HB := bst hb
                   (try clear hb)
                   (try clear hb2)
                   (try clear hk)
                   (try clear hi)
                   (try clear ho0)
                   obtain ⟨Ao57, co57, eo57⟩ := Kd.R_slice HO469.out
                   (first | subst eo57 | (injection eo57 with f1_ f2_ f3_; have f4_ := f1_.symm; have f5_ := f3_.symm; clear f1_ f2_ f3_; subst f4_; subst f5_))
                   have p470 : 0 ≤ (((rd_T65 l0 x3_2).f1) : Int) := qD
                   have q470 : ((rd_T65 l0 x3_2).f1) < (t467.length : Int) := qD
                   obtain ⟨ad470, e470, hx470_0, hx470_1, hx470_2, hx470_3⟩ := at_T47 (Kd.R_reads' HO469.out).2.2 ((rd_T65 l0 x3_2).f1) p470 q470
                   cases e470
                   replace p470 := eq_true p470
                   replace q470 := eq_true q470
                   refine hK.out _ _ ⟨(blk_cell BK464.out 0).trans rfl, (blk_cell BK464.out 1).trans rfl, (blk_cell BK464.out 2).trans rfl, (blk_cell BK464.out 3).trans rfl, ((HB.out.cell (World.block_lt_of_cell? w _ hw471_0)).trans hw471_0), ((HB.out.cell (World.block_lt_of_cell? w _ hw471_1)).trans hw471_1), ((HB.out.cell (World.block_lt_of_cell? w _ hw471_2)).trans hw471_2), ((HB.out.cell (World.block_lt_of_cell? w _ hw471_3)).trans hw471_3)⟩ (fun _ => ?_)
                   have hHeld : (fun w' : World => w'.cell? ⟨gb464, 0, none⟩ = some (.int .i64 ((rd_T65 l0 x3_2).f0)) ∧ w'.cell? ⟨gb464, 1, none⟩ = some (.int .i64 ((rd_T65 l0 x3_2).f1)) ∧ w'.cell? ⟨gb464, 2, none⟩ = some (.int .i64 ((rd_T65 l0 x3_2).f2)) ∧ w'.cell? ⟨gb464, 3, none⟩ = some (.slice A463_3 ((rd_T65 l0 x3_2).f3).length c463_3) ∧ w'.cell? (ad470.add ((((rd_T65 l0 x3_2).f1)).toNat * 4)) = some (.int .i64 ((rd_T47 t467 ((rd_T65 l0 x3_2).f1)).f0)) ∧ w'.cell? ⟨(ad470.add ((((rd_T65 l0 x3_2).f1)).toNat * 4)).block, (ad470.add ((((rd_T65 l0 x3_2).f1)).toNat * 4)).off + 1, none⟩ = some (.int .i64 ((rd_T47 t467 ((rd_T65 l0 x3_2).f1)).f1)) ∧ w'.cell? ⟨(ad470.add ((((rd_T65 l0 x3_2).f1)).toNat * 4)).block, (ad470.add ((((rd_T65 l0 x3_2).f1)).toNat * 4)).off + 2, none⟩ = some (.string ((rd_T47 t467 ((rd_T65 l0 x3_2).f1)).f2)) ∧ w'.cell? ⟨(ad470.add ((((rd_T65 l0 x3_2).f1)).toNat * 4)).block, (ad470.add ((((rd_T65 l0 x3_2).f1)).toNat * 4)).off + 3, none⟩ = some (.int .i64 ((rd_T47 t467 ((rd_T65 l0 x3_2).f1)).f3)) ∧ w'.cell? (ad463.add ((((rd_T65 l0 x3_2).f0)).toNat * 4)) = some (.int .i64 ((rd_T65 l0 ((rd_T65 l0 x3_2).f0)).f0)) ∧ w'.cell? ⟨(ad463.add ((((rd_T65 l0 x3_2).f0)).toNat * 4)).block, (ad463.add ((((rd_T65 l0 x3_2).f0)).toNat * 4)).off + 1, none⟩ = some (.int .i64 ((rd_T65 l0 ((rd_T65 l0 x3_2).f0)).f1)) ∧ w'.cell? ⟨(ad463.add ((((rd_T65 l0 x3_2).f0)).toNat * 4)).block, (ad463.add ((((rd_T65 l0 x3_2).f0)).toNat * 4)).off + 2, none⟩ = some (.int .i64 ((rd_T65 l0 ((rd_T65 l0 x3_2).f0)).f2)) ∧ w'.cell? ⟨(ad463.add ((((rd_T65 l0 x3_2).f0)).toNat * 4)).block, (ad463.add ((((rd_T65 l0 x3_2).f0)).toNat * 4)).off + 3, none⟩ = some (.slice A471_3 ((rd_T65 l0 ((rd_T65 l0 x3_2).f0)).f3).length c471_3)) w56 := ⟨(blk_cell BK464.out 0).trans rfl, (blk_cell BK464.out 1).trans rfl, (blk_cell BK464.out 2).trans rfl, (blk_cell BK464.out 3).trans rfl, hx470_0, hx470_1, hx470_2, hx470_3, ((HB.out.cell (World.block_lt_of_cell? w _ hw471_0)).trans hw471_0), ((HB.out.cell (World.block_lt_of_cell? w _ hw471_1)).trans hw471_1), ((HB.out.cell (World.block_lt_of_cell? w _ hw471_2)).trans hw471_2), ((HB.out.cell (World.block_lt_of_cell? w _ hw471_3)).trans hw471_3)⟩
                   refine more_ (S2 := fun w' => w'.cell? ⟨gb464, 0, none⟩ = some (.int .i64 ((rd_T65 l0 x3_2).f0)) ∧ w'.cell? ⟨gb464, 1, none⟩ = some (.int .i64 ((rd_T65 l0 x3_2).f1)) ∧ w'.cell? ⟨gb464, 2, none⟩ = some (.int .i64 ((rd_T65 l0 x3_2).f2)) ∧ w'.cell? ⟨gb464, 3, none⟩ = some (.slice A463_3 ((rd_T65 l0 x3_2).f3).length c463_3) ∧ w'.cell? (ad470.add ((((rd_T65 l0 x3_2).f1)).toNat * 4)) = some (.int .i64 ((rd_T47 t467 ((rd_T65 l0 x3_2).f1)).f0)) ∧ w'.cell? ⟨(ad470.add ((((rd_T65 l0 x3_2).f1)).toNat * 4)).block, (ad470.add ((((rd_T65 l0 x3_2).f1)).toNat * 4)).off + 1, none⟩ = some (.int .i64 ((rd_T47 t467 ((rd_T65 l0 x3_2).f1)).f1)) ∧ w'.cell? ⟨(ad470.add ((((rd_T65 l0 x3_2).f1)).toNat * 4)).block, (ad470.add ((((rd_T65 l0 x3_2).f1)).toNat * 4)).off + 2, none⟩ = some (.string ((rd_T47 t467 ((rd_T65 l0 x3_2).f1)).f2)) ∧ w'.cell? ⟨(ad470.add ((((rd_T65 l0 x3_2).f1)).toNat * 4)).block, (ad470.add ((((rd_T65 l0 x3_2).f1)).toNat * 4)).off + 3, none⟩ = some (.int .i64 ((rd_T47 t467 ((rd_T65 l0 x3_2).f1)).f3)) ∧ w'.cell? (ad463.add ((((rd_T65 l0 x3_2).f0)).toNat * 4)) = some (.int .i64 ((rd_T65 l0 ((rd_T65 l0 x3_2).f0)).f0)) ∧ w'.cell? ⟨(ad463.add ((((rd_T65 l0 x3_2).f0)).toNat * 4)).block, (ad463.add ((((rd_T65 l0 x3_2).f0)).toNat * 4)).off + 1, none⟩ = some (.int .i64 ((rd_T65 l0 ((rd_T65 l0 x3_2).f0)).f1)) ∧ w'.cell? ⟨(ad463.add ((((rd_T65 l0 x3_2).f0)).toNat * 4)).block, (ad463.add ((((rd_T65 l0 x3_2).f0)).toNat * 4)).off + 2, none⟩ = some (.int .i64 ((rd_T65 l0 ((rd_T65 l0 x3_2).f0)).f2)) ∧ w'.cell? ⟨(ad463.add ((((rd_T65 l0 x3_2).f0)).toNat * 4)).block, (ad463.add ((((rd_T65 l0 x3_2).f0)).toNat * 4)).off + 3, none⟩ = some (.slice A471_3 ((rd_T65 l0 ((rd_T65 l0 x3_2).f0)).f3).length c471_3)) (fun _ h_ => ⟨h_.1, h_.2.1, h_.2.2.1, h_.2.2.2.1, h_.2.2.2.2.2.2.2.2.1, h_.2.2.2.2.2.2.2.2.2.1, h_.2.2.2.2.2.2.2.2.2.2.1, h_.2.2.2.2.2.2.2.2.2.2.2⟩) _ _ _ _ hHeld ?_
                   clear hK K
                   refine nm 69 ?_
                   refine pu 4 72 ?_; refine pu 5 73 ?_
                   refine tk 6 74 ?_; refine pu 7 75 ?_
                   refine pu 8 76 ?_; refine pu 9 77 ?_
                   refine pu 10 78 ?_; refine pu 16 84 ?_
                   refine tk 11 79 ?_; refine pu 12 80 ?_
                   refine tk 13 81 ?_; refine tk 14 82 ?_; refine tk 17 85 ?_
                   refine onx 15 83 (fun K hK => ?_)
                   refine goes_ Tryd.func45 (by kernel_rfl) rfl #[.agg #[.int .i64 ((rd_T65 l0 ((rd_T65 l0 x3_2).f0)).f0), .int .i64 ((rd_T65 l0 ((rd_T65 l0 x3_2).f0)).f1), .int .i64 ((rd_T65 l0 ((rd_T65 l0 x3_2).f0)).f2), .slice A471_3 ((rd_T65 l0 ((rd_T65 l0 x3_2).f0)).f3).length c471_3], .agg #[.int .i64 ((rd_T65 l0 x3_2).f0), .int .i64 ((rd_T65 l0 x3_2).f1), .int .i64 ((rd_T65 l0 x3_2).f2), .slice A463_3 ((rd_T65 l0 x3_2).f3).length c463_3]] (by rfl) rfl rfl (by (try simp only [List.map_toArray, List.map_cons, List.map_nil]); first | done | rfl | (simp only [List.length_drop, List.length_take]; rfl)) ?_
                   with_reducible refine (whirligigref22_Common.calls kj23 ((rd_T65 l0 ((rd_T65 l0 x3_2).f0)).f0) ((rd_T65 l0 ((rd_T65 l0 x3_2).f0)).f1) ((rd_T65 l0 ((rd_T65 l0 x3_2).f0)).f2) _ _ ((rd_T65 l0 ((rd_T65 l0 x3_2).f0)).f3) ((rd_T65 l0 x3_2).f0) ((rd_T65 l0 x3_2).f1) ((rd_T65 l0 x3_2).f2) _ _ ((rd_T65 l0 x3_2).f3) t472 _ ?side1 ?side2 ?side3 ?side4 A49.out).mono ?_
                   (case side1 => exact qC)
                   (case side2 => exact HC471_3.out)
                   (case side3 => exact qC)
                   (case side4 => exact HC463_3.out)
                   rintro e w58 ⟨rfl, hb⟩
                   have HS4_ := (hb.cell (World.block_lt_of_cell? _ _ (hHeld.2.2.2.2.1))).trans (hHeld.2.2.2.2.1)
                   have HS5_ := (hb.cell (World.block_lt_of_cell? _ _ (hHeld.2.2.2.2.2.1))).trans (hHeld.2.2.2.2.2.1)
                   have HS6_ := (hb.cell (World.block_lt_of_cell? _ _ (hHeld.2.2.2.2.2.2.1))).trans (hHeld.2.2.2.2.2.2.1)
                   have HS7_ := (hb.cell (World.block_lt_of_cell? _ _ (hHeld.2.2.2.2.2.2.2.1))).trans (hHeld.2.2.2.2.2.2.2.1)
                   refine ⟨_, rfl, ?_⟩
                   replace BK464 := kb gb464 hb
                   replace HO469 := rb HO469 hb
                   replace HB := bst hb
                   (try clear hb)
                   (try clear hb2)
                   (try clear hk)
                   (try clear hi)
                   refine hK.out _ _ ⟨(blk_cell BK464.out 0).trans rfl, (blk_cell BK464.out 1).trans rfl, (blk_cell BK464.out 2).trans rfl, (blk_cell BK464.out 3).trans rfl, HS4_, HS5_, HS6_, HS7_, ((HB.out.cell (World.block_lt_of_cell? w _ hw471_0)).trans hw471_0), ((HB.out.cell (World.block_lt_of_cell? w _ hw471_1)).trans hw471_1), ((HB.out.cell (World.block_lt_of_cell? w _ hw471_2)).trans hw471_2), ((HB.out.cell (World.block_lt_of_cell? w _ hw471_3)).trans hw471_3)⟩ (fun hHeld => ?_)
                   clear hK K
                   refine nm 83 ?_
                   refine pu 18 86 ?_; refine pu 19 87 ?_
                   refine done_ (done_of HT_.out (by kernel_rfl)) ?_
                   try go_wp2
                   go_roundg kj23
                   case measure => have := HJ1.out; have := HK2.out; have := HJ23.out; omega
                   case rel => exact ⟨(wrap64 (x3_2 + 1)), (by first | rfl | (simp; done) | (simp [*]; done)), H', ⟨by have := HJ1.out; have := HK2.out; have := HJ23.out; omega⟩, ⟨qB⟩⟩
                 ·rw [if_neg c48] at H
                  exact absurd H (by simp)
                ·rw [if_neg c47] at H
                 exact absurd H (by simp)
              ·rw [if_neg c42] at H
               exact absurd H (by simp)
             ·rw [if_neg c41] at H
              exact absurd H (by simp)
        ·replace c8 := Bool.eq_false_iff.mpr c8
         subst c8
         rw [if_neg (show ¬ (false = true) by decide)] at H
         obtain rfl := Option.some.inj H
         have p463 : 0 ≤ (x3_2 : Int) := qD
         have q463 : x3_2 < (l0.length : Int) := qD
         obtain ⟨ad463, A463_3, c463_3, e463, hx463_0, hx463_1, hx463_2, hx463_3, hl463_3, hi463_3⟩ := at_T65 HR0.out x3_2 p463 q463
         cases e463
         replace hx463_0 := pw_cell_below HB.out hx463_0
         replace hx463_1 := pw_cell_below HB.out hx463_1
         replace hx463_2 := pw_cell_below HB.out hx463_2
         replace hx463_3 := pw_cell_below HB.out hx463_3
         have HR463_3 := Aside0.mk hi463_3
         have HC463_3 := Aside0.mk hl463_3
         clear hi463_3 hl463_3
         replace p463 := eq_true p463
         replace q463 := eq_true q463
         go_wp2_with (first | ((with_reducible refine gate_dst (N := 4) rfl ?_); (try (refine gate_guard (by rfl) ?_; dsimp only)); refine box_event ?hg (N := 4) ?hd (cs := #[.int .i64 0, .int .i64 0, .int .i64 0, .slice none 0 0]) (t := 65) ?hr ?_; (case hd => rfl); (case hg => rfl); (case hr => first | (go_simp; done) | (go_simp; rfl)); intro gb464 hg w59 hbox hb; have BK464 := Aside0.mk (hbox); have GW464 := geS hg; have GE464 := geS hg; replace HB := bst hb; clear hb hbox hg; obtain ⟨hcz60_0, hcz60_1, hcz60_2, hcz60_3, hfz60_0, hfz60_1, hfz60_2, hfz60_3⟩ := cells4 BK464.out) | (refine gl (some 24) #[.agg #[.int .i64 ((rd_T65 l0 x3_2).f0), .int .i64 ((rd_T65 l0 x3_2).f1), .int .i64 ((rd_T65 l0 x3_2).f2), .slice A463_3 ((rd_T65 l0 x3_2).f3).length c463_3]] Tryd.func79 ?_; (with_reducible refine (whirligigref22_branch.calls k2 ((rd_T65 l0 x3_2).f0) ((rd_T65 l0 x3_2).f1) ((rd_T65 l0 x3_2).f2) _ _ ((rd_T65 l0 x3_2).f3) false _ ?side1 ?side2 A7.out).mono ?_); (case side1 => exact Kd.C_below HR463_3.out qB); (case side2 => exact HC463_3.out); rintro e w61 ⟨rfl, hb⟩; refine ⟨_, rfl, ?_⟩; replace BK464 := kp gb464 (.cells #[.int .i64 ((rd_T65 l0 x3_2).f0), .int .i64 ((rd_T65 l0 x3_2).f1), .int .i64 ((rd_T65 l0 x3_2).f2), .slice A463_3 ((rd_T65 l0 x3_2).f3).length c463_3] 65 (0, 0)) hb; replace HB := bst hb; (try clear hb)))
         go_ret
         exact ⟨qR, qB⟩
       ·rw [if_neg c6] at H
        exact absurd H (by simp)
      ·rw [if_neg c5] at H
       have c5b0 := decide_eq_false c5
       clear c5
       obtain rfl := Option.some.inj H
       go_wp2
       go_ret
       exact ⟨qR, qB⟩
end Go.Proofs.YtbngfhlciebeeaaDoor.L
