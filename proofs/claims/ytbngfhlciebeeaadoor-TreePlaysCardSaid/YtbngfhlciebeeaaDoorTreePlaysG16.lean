/- Printed and hand-written steps towards the row (TreePlays), those that it reaches. -/
import Derived.Test.YtbngfhlciebeeaaDoorTreePlaysG4
import Derived.Test.YtbngfhlciebeeaaDoorTreePlaysG5
import Derived.Test.YtbngfhlciebeeaaDoorTreePlaysG15
import Derived.Test.YtbngfhlciebeeaaDoorTreePlaysG14
section
namespace Go.Proofs.YtbngfhlciebeeaaDoor.L
open Go.RowKit Go.Proofs.YtbngfhlciebeeaaDoorW.PrintWords Go.Proofs.YtbngfhlciebeeaaDoorW.PrintLast Go.Proofs.YtbngfhlciebeeaaDoorW.PrintMore
attribute [local go_sem] max2_int min2_int max_two min_two max_three min_three max_four min_four   -- for this text's walks alone
set_option linter.unusedVariables false
set_option linter.unusedSimpArgs false
mutual
def whirligigref22_branch.j0 : Nat → Bool → Int → Int → Int → List (S47) → Option (Bool)
 | 0, _, _, _, _, _ => none
 | k + 1, x21, x460000, x460001, x460002, x460003 => if x21 = true then (some false) else (whirligigref22_branch.l0 k (-1) 0 x460000 x460001 x460002 x460003)
def whirligigref22_branch.l0 : Nat → Int → Int → Int → Int → Int → List (S47) → Option (Bool)
 | 0, _, _, _, _, _, _ => none
 | k + 1, x3, x4, x460000, x460001, x460002, x460003 => if x4 < (x460003.length : Int) then (if 0 ≤ x4 then ((whirligigref22_RightInput.f k ((rd_T47 x460003 x4).f0) ((rd_T47 x460003 x4).f1) ((rd_T47 x460003 x4).f2) ((rd_T47 x460003 x4).f3)).bind fun t462 => (if t462 = true then (if ((rd_T47 x460003 x4).f0) ≤ x3 then (some false) else (if ((rd_T47 x460003 x4).f0) ≥ x460002 then (some false) else (whirligigref22_branch.l0 k ((rd_T47 x460003 x4).f0) (wrap64 (x4 + 1)) x460000 x460001 x460002 x460003))) else (some false))) else (none)) else (some true)
end
def whirligigref22_branch.f (k : Nat) (a0_0 : Int) (a0_1 : Int) (a0_2 : Int) (l0_3 : List (S47)) : Option (Bool) := if a0_2 < 0 then (whirligigref22_branch.j0 k true a0_0 a0_1 a0_2 l0_3) else (if a0_2 > 512 then (whirligigref22_branch.j0 k true a0_0 a0_1 a0_2 l0_3) else (whirligigref22_branch.j0 k (decide ((l0_3.length : Int) > a0_2)) a0_0 a0_1 a0_2 l0_3))
set_option maxHeartbeats 8000000 in
set_option maxRecDepth 100000 in
theorem whirligigref22_branch.calls (k : Nat) (a0_0 : Int) (a0_1 : Int) (a0_2 : Int) (A0_3 : Option Addr) (c0_3 : Nat) (l0_3 : List (S47)) (r : Bool) (w : World) (hr0_3 : Kd.C k47 w A0_3 l0_3.length l0_3) (hc0_3 : l0_3.length ≤ c0_3) (h : whirligigref22_branch.f k a0_0 a0_1 a0_2 l0_3 = some r) :
  Calls Tryd.prog 79 #[.agg #[.int .i64 a0_0, .int .i64 a0_1, .int .i64 a0_2, .slice A0_3 l0_3.length c0_3]] w fun e w' => e = .returned (.bool r) ∧ Below w.heap.size w w' := by
 have hu65 := Tryd.underlying65
 have hu47 := Tryd.underlying47
 have HR0_3 := Aside0.mk hr0_3
 have HC0_3 := Aside0.mk hc0_3
 clear hr0_3 hc0_3
 have HB := Aside0.mk (Below.refl w.heap.size w)
 have H : (if a0_2 < 0 then (whirligigref22_branch.j0 k true a0_0 a0_1 a0_2 l0_3) else (if a0_2 > 512 then (whirligigref22_branch.j0 k true a0_0 a0_1 a0_2 l0_3) else (whirligigref22_branch.j0 k (decide ((l0_3.length : Int) > a0_2)) a0_0 a0_1 a0_2 l0_3))) = some r := h
 clear h
 have HC2 := Aside0.mk H
 clear H
 go_enter Tryd.func79, Tryd.ntmps79
 go_upto_region 1 with (first | ((with_reducible refine gate_dst (N := 1) rfl ?_); (try (refine gate_guard (by rfl) ?_; dsimp only)); refine box_event ?hg (N := 1) ?hd (cs := #[.int .i64 a0_0, .int .i64 a0_1, .int .i64 a0_2, .slice A0_3 l0_3.length c0_3]) (t := 65) ?hr ?_; (case hd => rfl); (case hg => rfl); (case hr => first | (go_simp; done) | (go_simp; rfl)); intro gb459 hg w3 hbox hb; have BK459 := Aside0.mk (hbox); have GW459 := geS hg; have GE459 := geS hg; replace HB := bst hb; clear hb hbox hg))
 (try simp only [Act.put, List.setIfInBounds_toArray, List.set_cons_zero, List.set_cons_succ])
 go_cut [21] (fun v21 wc => ∃ (kq : Nat) (x21_1 : Bool), v21 = .bool x21_1 ∧ Aside0 (whirligigref22_branch.j0 kq x21_1 a0_0 a0_1 a0_2 l0_3 = some r) ∧ Aside0 (kq ≤ k) ∧ Aside0 (wc.heap[gb459]? = some (.cells #[.int .i64 a0_0, .int .i64 a0_1, .int .i64 a0_2, (.slice A0_3 l0_3.length c0_3)] 65 (0, 0))) ∧ Aside0 (Below w.heap.size w wc))
 case first =>
  have H := HC2.out
  clear HC2
  replace H := iD H
  rcases H with ⟨c4b0, H⟩ | ⟨c4b0, H⟩
  ·(first | rw [c4b0] | (simp only [i64_w, i32_w]; rw [c4b0]) | skip)
   have H' := Aside0.mk H
   clear H
   obtain ⟨_, _, _, _, _, _, _, _⟩ := cells4 BK459.out
   go_wp2
   go_meet
   case rel => exact ⟨_, (true), qE, H', ⟨by first | omega | exact Nat.le_refl _⟩, ⟨qK⟩, ⟨qB⟩⟩
  (first | rw [c4b0] | (simp only [i64_w, i32_w]; rw [c4b0]) | skip)
  replace H := iD H
  rcases H with ⟨c6b0, H⟩ | ⟨c6b0, H⟩
  ·have H' := Aside0.mk H
   clear H
   obtain ⟨_, _, _, _, _, _, _, _⟩ := cells4 BK459.out
   go_wp2
   go_meet
   case rel => exact ⟨_, (true), qE, H', ⟨by first | omega | exact Nat.le_refl _⟩, ⟨qK⟩, ⟨qB⟩⟩
  have H' := Aside0.mk H
  clear H
  obtain ⟨_, _, _, _, _, _, _, _⟩ := cells4 BK459.out
  go_wp2
  go_meet
  case rel => exact ⟨_, (decide ((l0_3.length : Int) > a0_2)), qE, H', ⟨by first | omega | exact Nat.le_refl _⟩, ⟨qK⟩, ⟨qB⟩⟩
 case rest =>
  clear HC2
  try clear p2
  obtain ⟨kq, x21_1, rfl, HA, HJ1, BK459, HB⟩ := hcut
  cases kq with
  | zero => exact absurd HA.out (by simp [whirligigref22_branch.j0])
  | succ kj1 =>
   have H := HA.out
   clear HA
   simp only [whirligigref22_branch.j0] at H
   by_cases c9 : x21_1 = true
   ·subst c9
    rw [if_pos rfl] at H
    obtain rfl := Option.some.inj H
    go_wp2
    go_ret
    exact ⟨qR, qB⟩
   replace c9 := Bool.eq_false_iff.mpr c9
   subst c9
   rw [if_neg (show ¬ (false = true) by decide)] at H
   have H' := Aside0.mk H
   clear H
   go_wp2
   go_loopg [3, 4] kj1 (fun kq v3 v4 w' => ∃ (x3_2 : Int) (x4_2 : Int), v3 = .int .i64 x3_2 ∧ v4 = .int .i64 x4_2 ∧ Aside0 (whirligigref22_branch.l0 kq x3_2 x4_2 a0_0 a0_1 a0_2 l0_3 = some r) ∧ Aside0 (kq ≤ kj1) ∧ Aside0 (w'.heap[gb459]? = some (.cells #[.int .i64 a0_0, .int .i64 a0_1, .int .i64 a0_2, (.slice A0_3 l0_3.length c0_3)] 65 (0, 0))) ∧ Aside0 (Below w.heap.size w w'))
   case atStart => exact ⟨((-1)), (0), qE, qE, H', ⟨Nat.le_refl _⟩, ⟨qK⟩, ⟨qB⟩⟩
   case round =>
    clear H'
    try clear p2 p2
    obtain ⟨x3_2, x4_2, rfl, rfl, HA, HK2, BK459, HB⟩ := hrel
    cases gk with
    | zero => exact absurd HA.out (by simp [whirligigref22_branch.l0])
    | succ k2 =>
     have H := HA.out; clear HA; simp only [whirligigref22_branch.l0] at H; replace H := iD H
     rcases H with ⟨c10b0, H⟩ | ⟨c10b0, H⟩
     ·by_cases c11 : 0 ≤ x4_2
      ·rw [if_pos c11] at H; have c11b0 := decide_eq_true c11; clear c11; replace H := Option.bind_eq_some_iff.mp H; obtain ⟨t462, A120, H⟩ := H; (try dsimp -simprocs only at H); have A12 := Aside0.mk A120; clear A120
       by_cases c13 : t462 = true
       ·subst c13; rw [if_pos rfl] at H; replace H := iD H
        rcases H with ⟨c14b0, H⟩ | ⟨c14b0, H⟩
        ·obtain rfl := Option.some.inj H; obtain ⟨_, _, _, _, _, _, _, _⟩ := cells4 BK459.out; have p460 : 0 ≤ (x4_2 : Int) := qD; have q460 : x4_2 < (l0_3.length : Int) := qD; obtain ⟨ad460, e460, hx460_0, hx460_1, hx460_2, hx460_3⟩ := at_T47 (Kd.C_below HR0_3.out HB.out) x4_2 p460 q460; cases e460; replace p460 := eq_true p460; replace q460 := eq_true q460
         go_wp2_with (first | ((with_reducible refine gate_dst (N := 5) rfl ?_); (try (refine gate_guard (by rfl) ?_; dsimp only)); refine box_event ?hg (N := 5) ?hd (cs := #[.int .i64 0, .int .i64 0, .string (⟨#[]⟩ : ByteArray), .int .i64 0]) (t := 47) ?hr ?_; (case hd => rfl); (case hg => rfl); (case hr => first | (go_simp; done) | (go_simp; rfl)); intro gb461 hg w16 hbox hb; have BK461 := Aside0.mk (hbox); have GW461 := geS hg; have GE461 := geS hg; have NB459_461 := neS gb459 hg; have NB461_459 := neT gb459 hg; replace BK459 := kb gb459 hb; replace HB := bst hb; clear hb hbox hg; have := NB461_459.out; have := NB459_461.out; obtain ⟨_, _, _, _, _, _, _, _⟩ := cells4 BK461.out) | ((with_reducible refine gc 34 rfl ?_); refine gl (some 35) #[.agg #[.int .i64 ((rd_T47 l0_3 x4_2).f0), .int .i64 ((rd_T47 l0_3 x4_2).f1), .string ((rd_T47 l0_3 x4_2).f2), .int .i64 ((rd_T47 l0_3 x4_2).f3)]] Tryd.func34 ?_; (with_reducible refine (whirligigref22_RightInput.calls k2 ((rd_T47 l0_3 x4_2).f0) ((rd_T47 l0_3 x4_2).f1) ((rd_T47 l0_3 x4_2).f2) ((rd_T47 l0_3 x4_2).f3) true _ A12.out).mono ?_); rintro e w19 ⟨rfl, hb⟩; refine ⟨_, rfl, ?_⟩; replace BK459 := kb gb459 hb; replace BK461 := kp gb461 (.cells #[.int .i64 ((rd_T47 l0_3 x4_2).f0), .int .i64 ((rd_T47 l0_3 x4_2).f1), .string ((rd_T47 l0_3 x4_2).f2), .int .i64 ((rd_T47 l0_3 x4_2).f3)] 47 (0, 0)) hb; replace HB := bst hb; (try clear hb); obtain ⟨_, _, _, _, _, _, _, _⟩ := cells4 BK461.out))
         go_ret; exact ⟨qR, qB⟩
        by_cases c21 : ((rd_T47 l0_3 x4_2).f0) ≥ a0_2
        ·rw [if_pos c21] at H; have c21b0 := decide_eq_true c21; clear c21; obtain rfl := Option.some.inj H; obtain ⟨_, _, _, _, _, _, _, _⟩ := cells4 BK459.out; have p460 : 0 ≤ (x4_2 : Int) := qD; have q460 : x4_2 < (l0_3.length : Int) := qD; obtain ⟨ad460, e460, hx460_0, hx460_1, hx460_2, hx460_3⟩ := at_T47 (Kd.C_below HR0_3.out HB.out) x4_2 p460 q460; cases e460; replace p460 := eq_true p460; replace q460 := eq_true q460
         go_wp2_with (first | ((with_reducible refine gate_dst (N := 5) rfl ?_); (try (refine gate_guard (by rfl) ?_; dsimp only)); refine box_event ?hg (N := 5) ?hd (cs := #[.int .i64 0, .int .i64 0, .string (⟨#[]⟩ : ByteArray), .int .i64 0]) (t := 47) ?hr ?_; (case hd => rfl); (case hg => rfl); (case hr => first | (go_simp; done) | (go_simp; rfl)); intro gb461 hg w23 hbox hb; have BK461 := Aside0.mk (hbox); have GW461 := geS hg; have GE461 := geS hg; have NB459_461 := neS gb459 hg; have NB461_459 := neT gb459 hg; replace BK459 := kb gb459 hb; replace HB := bst hb; clear hb hbox hg; have := NB461_459.out; have := NB459_461.out; obtain ⟨_, _, _, _, _, _, _, _⟩ := cells4 BK461.out) | ((with_reducible refine gc 34 rfl ?_); refine gl (some 35) #[.agg #[.int .i64 ((rd_T47 l0_3 x4_2).f0), .int .i64 ((rd_T47 l0_3 x4_2).f1), .string ((rd_T47 l0_3 x4_2).f2), .int .i64 ((rd_T47 l0_3 x4_2).f3)]] Tryd.func34 ?_; (with_reducible refine (whirligigref22_RightInput.calls k2 ((rd_T47 l0_3 x4_2).f0) ((rd_T47 l0_3 x4_2).f1) ((rd_T47 l0_3 x4_2).f2) ((rd_T47 l0_3 x4_2).f3) true _ A12.out).mono ?_); rintro e w26 ⟨rfl, hb⟩; refine ⟨_, rfl, ?_⟩; replace BK459 := kb gb459 hb; replace BK461 := kp gb461 (.cells #[.int .i64 ((rd_T47 l0_3 x4_2).f0), .int .i64 ((rd_T47 l0_3 x4_2).f1), .string ((rd_T47 l0_3 x4_2).f2), .int .i64 ((rd_T47 l0_3 x4_2).f3)] 47 (0, 0)) hb; replace HB := bst hb; (try clear hb); obtain ⟨_, _, _, _, _, _, _, _⟩ := cells4 BK461.out; obtain ⟨_, _, _, _, _, _, _, _⟩ := cells4 BK459.out))
         go_ret; exact ⟨qR, qB⟩
        rw [if_neg c21] at H; have c21b0 := decide_eq_false c21; clear c21; have H' := Aside0.mk H; clear H; obtain ⟨_, _, _, _, _, _, _, _⟩ := cells4 BK459.out; have p460 : 0 ≤ (x4_2 : Int) := qD; have q460 : x4_2 < (l0_3.length : Int) := qD; obtain ⟨ad460, e460, hx460_0, hx460_1, hx460_2, hx460_3⟩ := at_T47 (Kd.C_below HR0_3.out HB.out) x4_2 p460 q460; cases e460; replace p460 := eq_true p460; replace q460 := eq_true q460
        go_wp2_with (first | ((with_reducible refine gate_dst (N := 5) rfl ?_); (try (refine gate_guard (by rfl) ?_; dsimp only)); refine box_event ?hg (N := 5) ?hd (cs := #[.int .i64 0, .int .i64 0, .string (⟨#[]⟩ : ByteArray), .int .i64 0]) (t := 47) ?hr ?_; (case hd => rfl); (case hg => rfl); (case hr => first | (go_simp; done) | (go_simp; rfl)); intro gb461 hg w30 hbox hb; have BK461 := Aside0.mk (hbox); have GW461 := geS hg; have GE461 := geS hg; have NB459_461 := neS gb459 hg; have NB461_459 := neT gb459 hg; replace BK459 := kb gb459 hb; replace HB := bst hb; clear hb hbox hg; have := NB461_459.out; have := NB459_461.out; obtain ⟨_, _, _, _, _, _, _, _⟩ := cells4 BK461.out) | ((with_reducible refine gc 34 rfl ?_); refine gl (some 35) #[.agg #[.int .i64 ((rd_T47 l0_3 x4_2).f0), .int .i64 ((rd_T47 l0_3 x4_2).f1), .string ((rd_T47 l0_3 x4_2).f2), .int .i64 ((rd_T47 l0_3 x4_2).f3)]] Tryd.func34 ?_; (with_reducible refine (whirligigref22_RightInput.calls k2 ((rd_T47 l0_3 x4_2).f0) ((rd_T47 l0_3 x4_2).f1) ((rd_T47 l0_3 x4_2).f2) ((rd_T47 l0_3 x4_2).f3) true _ A12.out).mono ?_); rintro e w33 ⟨rfl, hb⟩; refine ⟨_, rfl, ?_⟩; replace BK459 := kb gb459 hb; replace BK461 := kp gb461 (.cells #[.int .i64 ((rd_T47 l0_3 x4_2).f0), .int .i64 ((rd_T47 l0_3 x4_2).f1), .string ((rd_T47 l0_3 x4_2).f2), .int .i64 ((rd_T47 l0_3 x4_2).f3)] 47 (0, 0)) hb; replace HB := bst hb; (try clear hb); obtain ⟨_, _, _, _, _, _, _, _⟩ := cells4 BK461.out; obtain ⟨_, _, _, _, _, _, _, _⟩ := cells4 BK459.out))
        go_roundg k2
        case measure => have := HJ1.out; have := HK2.out; omega
        case rel => exact ⟨((rd_T47 l0_3 x4_2).f0), (wrap64 (x4_2 + 1)), qE, qE, H', ⟨by have := HJ1.out; have := HK2.out; omega⟩, ⟨qK⟩, ⟨qB⟩⟩
       replace c13 := Bool.eq_false_iff.mpr c13; subst c13; rw [if_neg (show ¬ (false = true) by decide)] at H; obtain rfl := Option.some.inj H; obtain ⟨_, _, _, _, _, _, _, _⟩ := cells4 BK459.out; have p460 : 0 ≤ (x4_2 : Int) := qD; have q460 : x4_2 < (l0_3.length : Int) := qD; obtain ⟨ad460, e460, hx460_0, hx460_1, hx460_2, hx460_3⟩ := at_T47 (Kd.C_below HR0_3.out HB.out) x4_2 p460 q460; cases e460; replace p460 := eq_true p460; replace q460 := eq_true q460
       go_wp2_with (first | ((with_reducible refine gate_dst (N := 5) rfl ?_); (try (refine gate_guard (by rfl) ?_; dsimp only)); refine box_event ?hg (N := 5) ?hd (cs := #[.int .i64 0, .int .i64 0, .string (⟨#[]⟩ : ByteArray), .int .i64 0]) (t := 47) ?hr ?_; (case hd => rfl); (case hg => rfl); (case hr => first | (go_simp; done) | (go_simp; rfl)); intro gb461 hg w37 hbox hb; have BK461 := Aside0.mk (hbox); have GW461 := geS hg; have GE461 := geS hg; have NB459_461 := neS gb459 hg; have NB461_459 := neT gb459 hg; replace BK459 := kb gb459 hb; replace HB := bst hb; clear hb hbox hg; have := NB461_459.out; have := NB459_461.out; obtain ⟨_, _, _, _, _, _, _, _⟩ := cells4 BK461.out) | ((with_reducible refine gc 34 rfl ?_); refine gl (some 35) #[.agg #[.int .i64 ((rd_T47 l0_3 x4_2).f0), .int .i64 ((rd_T47 l0_3 x4_2).f1), .string ((rd_T47 l0_3 x4_2).f2), .int .i64 ((rd_T47 l0_3 x4_2).f3)]] Tryd.func34 ?_; (with_reducible refine (whirligigref22_RightInput.calls k2 ((rd_T47 l0_3 x4_2).f0) ((rd_T47 l0_3 x4_2).f1) ((rd_T47 l0_3 x4_2).f2) ((rd_T47 l0_3 x4_2).f3) false _ A12.out).mono ?_); rintro e w40 ⟨rfl, hb⟩; refine ⟨_, rfl, ?_⟩; replace BK459 := kb gb459 hb; replace BK461 := kp gb461 (.cells #[.int .i64 ((rd_T47 l0_3 x4_2).f0), .int .i64 ((rd_T47 l0_3 x4_2).f1), .string ((rd_T47 l0_3 x4_2).f2), .int .i64 ((rd_T47 l0_3 x4_2).f3)] 47 (0, 0)) hb; replace HB := bst hb; (try clear hb)))
       go_ret; exact ⟨qR, qB⟩
      rw [if_neg c11] at H; exact absurd H (by simp)
     obtain rfl := Option.some.inj H; obtain ⟨_, _, _, _, _, _, _, _⟩ := cells4 BK459.out
     go_wp2
     go_ret; exact ⟨qR, qB⟩
def tree_Branch_ahead.l0 : Nat → Int → List (S45) → List (S45) → Int → Int → Option ((List (S45)))
 | 0, _, _, _, _, _ => none
 | k + 1, x1, x5, x9, x10, x11 => if x11 < x10 then (if 0 ≤ x11 then (if x11 < (x9.length : Int) then (if ((rd_T45 x9 x11).f0) < x1 then (if x5.length < 3518437208883 then (tree_Branch_ahead.l0 k x1 (x5 ++ [(⟨(rd_T45 x9 x11).f0, (rd_T45 x9 x11).f1, (rd_T45 x9 x11).f2, (rd_T45 x9 x11).f3⟩ : S45)]) x9 x10 (wrap64 (x11 + 1))) else (none)) else (tree_Branch_ahead.l0 k x1 x5 x9 x10 (wrap64 (x11 + 1)))) else (none)) else (none)) else (some x5)
def tree_Branch_ahead.f (k : Nat) (a0_0 : Int) (a0_1 : Int) (a0_2 : Int) (l0_3 : List (S45)) (a1 : Int) : Option ((List (S45))) := tree_Branch_ahead.l0 k a1 ([] : List (S45)) l0_3 (l0_3.length : Int) 0
set_option maxHeartbeats 8000000 in
set_option maxRecDepth 100000 in
theorem tree_Branch_ahead.calls (k : Nat) (a0_0 : Int) (a0_1 : Int) (a0_2 : Int) (A0_3 : Option Addr) (c0_3 : Nat) (l0_3 : List (S45)) (a1 : Int) (r : List (S45)) (w : World) (hr0_3 : Kd.C k45 w A0_3 l0_3.length l0_3) (hc0_3 : l0_3.length ≤ c0_3) (h : tree_Branch_ahead.f k a0_0 a0_1 a0_2 l0_3 a1 = some r) :
  Calls Tryd.prog 81 #[.agg #[.int .i64 a0_0, .int .i64 a0_1, .int .i64 a0_2, .slice A0_3 l0_3.length c0_3], .int .i64 a1] w fun e w' => ∃ v0_ : Value, e = .returned (v0_) ∧ Kd.R k45 45 w' w.heap.size (fun _ => True) v0_ r ∧ Below w.heap.size w w' := by
 have hu43 := Tryd.underlying43
 have hu45 := Tryd.underlying45
 have HR0_3 := Aside0.mk hr0_3
 have HC0_3 := Aside0.mk hc0_3
 clear hr0_3 hc0_3
 have HB := Aside0.mk (Below.refl w.heap.size w)
 have H : (tree_Branch_ahead.l0 k a1 ([] : List (S45)) l0_3 (l0_3.length : Int) 0) = some r := h
 clear h
 have H' := Aside0.mk H
 clear H
 go_enter Tryd.func81, Tryd.ntmps81
 go_wp2_with (first | ((with_reducible refine gd 2 rfl ?_); refine bxx 2 #[.int .i64 a0_0, .int .i64 a0_1, .int .i64 a0_2, .slice A0_3 l0_3.length c0_3] 43 ?_; intro gb334 w3 BK334 GW334 HB; obtain ⟨_, _, _, _, _, _, _, _⟩ := cells4 BK334.out))
 go_loopg [5, 11] k (fun kq v5 v11 w' => ∃ (x5_1 : List (S45)) (x11_1 : Int), v11 = .int .i64 x11_1 ∧ Aside0 (tree_Branch_ahead.l0 kq a1 x5_1 l0_3 (l0_3.length : Int) x11_1 = some r) ∧ Aside0 (kq ≤ k) ∧ Aside0 (Kd.R k45 45 w' w.heap.size (fun _ => True) v5 x5_1) ∧ Aside0 (w'.heap[gb334]? = some (.cells #[.int .i64 a0_0, .int .i64 a0_1, .int .i64 a0_2, (.slice A0_3 l0_3.length c0_3)] 43 (0, 0))) ∧ Aside0 (Below w.heap.size w w'))
 case atStart => exact ⟨(([] : List (S45))), (0), qE, H', ⟨Nat.le_refl _⟩, ⟨by first | exact Kd.R_nil _ _ _ _ _ | exact Kd.N_nil _ _ _ _ _ | exact Kd.V_nil _ _ _ _ _ | exact Kd.Q_nil _ _ _ _ _ | exact Kd.S_nil _ _ _ _ _⟩, ⟨qK⟩, ⟨qB⟩⟩
 case round =>
  clear H'
  try clear p2
  obtain ⟨x5_1, x11_1, rfl, HA, HK1, HO_5, BK334, HB⟩ := hrel
  cases gk with
  | zero => exact absurd HA.out (by simp [tree_Branch_ahead.l0])
  | succ k1 =>
   have H := HA.out
   clear HA
   simp only [tree_Branch_ahead.l0] at H
   replace H := iD H
   rcases H with ⟨c5b0, H⟩ | ⟨c5b0, H⟩
   ·by_cases c6 : 0 ≤ x11_1
    ·rw [if_pos c6] at H; have c6b0 := decide_eq_true c6; clear c6; replace H := iD H
     rcases H with ⟨c7b0, H⟩ | ⟨c7b0, H⟩
     ·by_cases c8 : ((rd_T45 l0_3 x11_1).f0) < a1
      ·rw [if_pos c8] at H; have c8b0 := decide_eq_true c8; clear c8
       by_cases c9 : x5_1.length < 3518437208883
       ·rw [if_pos c9] at H; have LMc9 := Aside0.mk c9; clear c9; obtain ⟨y337, hy337⟩ : ∃ y_ : List (S45), y_ = (x5_1 ++ [(⟨(rd_T45 l0_3 x11_1).f0, (rd_T45 l0_3 x11_1).f1, (rd_T45 l0_3 x11_1).f2, (rd_T45 l0_3 x11_1).f3⟩ : S45)]) := ⟨_, rfl⟩; replace H : (tree_Branch_ahead.l0 k1 a1 y337 l0_3 (l0_3.length : Int) (wrap64 (x11_1 + 1))) = some r := by first | (rw [hy337]; with_reducible exact H) | (have H2_ := (Option.bind_some _ _).symm.trans H; rw [hy337]; with_reducible exact H2_) | (have H2_ := (Option.bind_some _ _).symm.trans H; with_reducible exact H2_) | with_reducible exact H | (rw [hy337]; exact H) | exact H
        have Ny337 := Aside0.mk hy337; clear hy337; have H' := Aside0.mk H; clear H; have p335 : 0 ≤ (x11_1 : Int) := qD; have q335 : x11_1 < (l0_3.length : Int) := qD; obtain ⟨ad335, e335, hx335_0, hx335_1, hx335_2, hx335_3⟩ := at_T45 (Kd.C_below HR0_3.out HB.out) x11_1 p335 q335; cases e335; replace p335 := eq_true p335; replace q335 := eq_true q335
        go_wp2_with (first | ((with_reducible refine gd 7 rfl ?_); refine bx 7 #[.int .i64 0, .int .i64 0, .string (⟨#[]⟩ : ByteArray), .int .i64 0] 45 ?_; intro gb336 hg w10 hbox hb; have n0_ := Aside0.mk (Kd.R_below (Kd.R_elderB (by (with_reducible repeat (first | apply Kd.R_alloc | apply Kd.R_drewN | apply Kd.R_drew)); exact HO_5.out) gb336 (Nat.le_of_eq hg.symm)) hb); have n1_ := kb gb334 hb; have n2_ := bst hb; have n3_ := Aside0.mk (hbox); have n4_ := geS hg; have n5_ := geS hg; have n6_ := neS gb334 hg; have n7_ := neT gb334 hg; clear HO_5; clear BK334; clear HB; have HO_5 := n0_; have BK334 := n1_; have HB := n2_; have BK336 := n3_; have GW336 := n4_; have GE336 := n5_; have NB334_336 := n6_; have NB336_334 := n7_; clear n0_ n1_ n2_ n3_ n4_ n5_ n6_ n7_; clear hb hbox hg; have := NB336_334.out; have := NB334_336.out; obtain ⟨_, _, _, _, _, _, _, _⟩ := cells4 BK336.out) | ((with_reducible refine gate_builtin (b := .append) (xs := #[.tmp 19, .tmp 21]) rfl ?_); at_builtin; refine Kd.R_append k45 (w0 := w) w.heap.size rfl (.tmp 19) (.tmp 21) 41 45 (.agg #[(.int .i64 0), (.int .i64 0), (.string ⟨#[]⟩), (.int .i64 0)]) 40 rfl Tryd.underlying41 info45 rfl (by decide) (by omega) u5 x5_1 (⟨(rd_T45 l0_3 x11_1).f0, (rd_T45 l0_3 x11_1).f1, (rd_T45 l0_3 x11_1).f2, (rd_T45 l0_3 x11_1).f3⟩ : S45) [.int .i64 ((rd_T45 l0_3 x11_1).f0), .int .i64 ((rd_T45 l0_3 x11_1).f1), .string ((rd_T45 l0_3 x11_1).f2), .int .i64 ((rd_T45 l0_3 x11_1).f3)] (fun k_ => k_ ≠ gb336) (fun _ => False) rfl (by first | (go_simp; done) | (go_simp; rfl)) ?aP (fun _ hk => hk.elim) ?aF ?aO ?aB ?aS ?aL ?_; (case aP => exact k45_mkM _ _ _ (⟨(rd_T45 l0_3 x11_1).f0, (rd_T45 l0_3 x11_1).f1, (rd_T45 l0_3 x11_1).f2, (rd_T45 l0_3 x11_1).f3⟩ : S45)); (case aB => exact qB); (case aF => exact (fun k_ hk => Kd.freshB (g := gb336) (o := .cells #[.int .i64 ((rd_T45 l0_3 x11_1).f0), .int .i64 ((rd_T45 l0_3 x11_1).f1), .string ((rd_T45 l0_3 x11_1).f2), .int .i64 ((rd_T45 l0_3 x11_1).f3)] 45 (0, 0)) qP k_ hk)); (case aO => exact (by (with_reducible repeat (first | apply Kd.R_alloc | apply Kd.R_drewN | apply Kd.R_drew)); exact Kd.R_mono (Kd.R_far (p := ⟨gb336, 3, none⟩) (Kd.R_far (p := ⟨gb336, 2, none⟩) (Kd.R_far (p := ⟨gb336, 1, none⟩) (Kd.R_far (p := ⟨gb336, 0, none⟩) (Kd.R_mono HO_5.out (fun k_ hk => (⟨hk, hk.2⟩ : _ ∧ k_ ≠ gb336))) (fun _ hk => hk.2) (.int .i64 ((rd_T45 l0_3 x11_1).f0))) (fun _ hk => hk.2) (.int .i64 ((rd_T45 l0_3 x11_1).f1))) (fun _ hk => hk.2) (.string ((rd_T45 l0_3 x11_1).f2))) (fun _ hk => hk.2) (.int .i64 ((rd_T45 l0_3 x11_1).f3))) (fun _ hk => hk.1.2))); (case aS => exact (below_size qB)); (case aL => have := LMc9.out; omega); intro v338 w13 ho hb hg hat; rw [← Ny337.out] at ho; have n0_ := Aside0.mk (blk_grown (g := gb334) (o := .cells #[.int .i64 a0_0, .int .i64 a0_1, .int .i64 a0_2, .slice (some ad335) l0_3.length c0_3] 43 (0, 0)) qK hg (Kd.R_ne HO_5.out BK334.out (by decide))); have n1_ := Aside0.mk (blk_grown (g := gb336) (o := .cells #[.int .i64 ((rd_T45 l0_3 x11_1).f0), .int .i64 ((rd_T45 l0_3 x11_1).f1), .string ((rd_T45 l0_3 x11_1).f2), .int .i64 ((rd_T45 l0_3 x11_1).f3)] 45 (0, 0)) qP hg (Kd.R_away HO_5.out (fun _ hk => hk.2))); have n2_ := Aside0.mk (hb); have n3_ := Aside0.mk (ho); clear BK334; clear BK336; clear HB; clear HO_5; have BK334 := n0_; have BK336 := n1_; have HB := n2_; have HO339 := n3_; clear n0_ n1_ n2_ n3_; clear ho hb hg hat))
        go_roundg k1
        case measure => have := HK1.out; omega
        case rel => exact ⟨(y337), (wrap64 (x11_1 + 1)), qE, H', ⟨by have := HK1.out; omega⟩, ⟨by (with_reducible repeat (first | apply Kd.R_alloc | apply Kd.R_drewN | apply Kd.R_drew)); exact Kd.R_mono HO339.out (fun _ hk => trivial)⟩, ⟨qK⟩, ⟨qB⟩⟩
       rw [if_neg c9] at H; exact absurd H (by simp)
      rw [if_neg c8] at H; have c8b0 := decide_eq_false c8; clear c8; have H' := Aside0.mk H; clear H; have p335 : 0 ≤ (x11_1 : Int) := qD; have q335 : x11_1 < (l0_3.length : Int) := qD; obtain ⟨ad335, e335, hx335_0, hx335_1, hx335_2, hx335_3⟩ := at_T45 (Kd.C_below HR0_3.out HB.out) x11_1 p335 q335; cases e335; replace p335 := eq_true p335; replace q335 := eq_true q335
      go_wp2_with (first | ((with_reducible refine gd 7 rfl ?_); refine bx 7 #[.int .i64 0, .int .i64 0, .string (⟨#[]⟩ : ByteArray), .int .i64 0] 45 ?_; intro gb336 hg w14 hbox hb; have n0_ := Aside0.mk (Kd.R_below (Kd.R_elderB (by (with_reducible repeat (first | apply Kd.R_alloc | apply Kd.R_drewN | apply Kd.R_drew)); exact HO_5.out) gb336 (Nat.le_of_eq hg.symm)) hb); have n1_ := kb gb334 hb; have n2_ := bst hb; have n3_ := Aside0.mk (hbox); have n4_ := geS hg; have n5_ := geS hg; have n6_ := neS gb334 hg; have n7_ := neT gb334 hg; clear HO_5; clear BK334; clear HB; have HO_5 := n0_; have BK334 := n1_; have HB := n2_; have BK336 := n3_; have GW336 := n4_; have GE336 := n5_; have NB334_336 := n6_; have NB336_334 := n7_; clear n0_ n1_ n2_ n3_ n4_ n5_ n6_ n7_; clear hb hbox hg; have := NB336_334.out; have := NB334_336.out; obtain ⟨_, _, _, _, _, _, _, _⟩ := cells4 BK336.out))
      go_roundg k1
      case measure => have := HK1.out; omega
      case rel => exact ⟨(x5_1), (wrap64 (x11_1 + 1)), qE, H', ⟨by have := HK1.out; omega⟩, ⟨by (with_reducible repeat (first | apply Kd.R_alloc | apply Kd.R_drewN | apply Kd.R_drew)); exact Kd.R_mono (Kd.R_far (p := ⟨gb336, 3, none⟩) (Kd.R_far (p := ⟨gb336, 2, none⟩) (Kd.R_far (p := ⟨gb336, 1, none⟩) (Kd.R_far (p := ⟨gb336, 0, none⟩) (Kd.R_mono HO_5.out (fun k_ hk => (⟨hk, hk.2⟩ : _ ∧ k_ ≠ gb336))) (fun _ hk => hk.2) (.int .i64 ((rd_T45 l0_3 x11_1).f0))) (fun _ hk => hk.2) (.int .i64 ((rd_T45 l0_3 x11_1).f1))) (fun _ hk => hk.2) (.string ((rd_T45 l0_3 x11_1).f2))) (fun _ hk => hk.2) (.int .i64 ((rd_T45 l0_3 x11_1).f3))) (fun _ hk => trivial)⟩, ⟨qK⟩, ⟨qB⟩⟩
     exact absurd H (by simp)
    rw [if_neg c6] at H
    exact absurd H (by simp)
   obtain rfl := Option.some.inj H
   go_wp2
   go_ret
   exact ⟨_, qR, by (with_reducible repeat (first | apply Kd.R_alloc | apply Kd.R_drewN | apply Kd.R_drew)); exact HO_5.out, qB⟩
end Go.Proofs.YtbngfhlciebeeaaDoor.L
end
section
namespace Go.Proofs.YtbngfhlciebeeaaDoor.Sp
set_option linter.unusedVariables false
set_option linter.unusedSimpArgs false
open Go.RowKit Go.Proofs.YtbngfhlciebeeaaDoor.L Go.Proofs.YtbngfhlciebeeaaDoorW.PrintWords
theorem rd45 {l : List S45} {j : Nat} (h : j < l.length) : rd_T45 l (j : Int) = l[j] := by
  unfold rd_T45
  rw [Int.toNat_natCast, List.getD_eq_getElem?_getD, List.getElem?_eq_getElem h]; rfl
theorem rd43 {l : List S43} {j : Nat} (h : j < l.length) : rd_T43 l (j : Int) = l[j] := by
  unfold rd_T43
  rw [Int.toNat_natCast, List.getD_eq_getElem?_getD, List.getElem?_eq_getElem h]; rfl
theorem rd47 {l : List S47} {j : Nat} (h : j < l.length) : rd_T47 l (j : Int) = l[j] := by
  unfold rd_T47
  rw [Int.toNat_natCast, List.getD_eq_getElem?_getD, List.getElem?_eq_getElem h]; rfl
theorem rd65 {l : List S65} {j : Nat} (h : j < l.length) : rd_T65 l (j : Int) = l[j] := by
  unfold rd_T65
  rw [Int.toNat_natCast, List.getD_eq_getElem?_getD, List.getElem?_eq_getElem h]; rfl
theorem actEvent_ev (s : ByteArray) (hs : s.size ≤ 1000000) : Ev (fun k => act_Event.f k s) (evOk s) := by
  unfold act_Event.f evOk
  refine Ev.bind (Event_ev s hs) ?_
  cases eventT s with
  | true => exact Ev.pos rfl (Ev.bind_some (tMeans_eq s) (Ev.some (by simp)))
  | false => exact Ev.neg (by decide) (Ev.some rfl)
theorem refEvent_ev (s : ByteArray) (hs : s.size ≤ 1000000) : Ev (fun k => whirligigref06_Event.f k s) (evOk s) := by
  unfold whirligigref06_Event.f evOk
  refine Ev.bind (rEvent_ev s hs) ?_
  cases eventT s with
  | true => exact Ev.pos rfl (Ev.bind (rMeans_ev s hs) (Ev.some (by simp)))
  | false => exact Ev.neg (by decide) (Ev.some rfl)
theorem inputRight_ev (x : S45) (hs : x.f2.size ≤ 1000000) : Ev (fun k => tree_Input_Right.f k x.f0 x.f1 x.f2 x.f3) (rightI x) := by
  unfold tree_Input_Right.f rightI
  by_cases h1 : x.f1 = 1
  · refine Ev.pos h1 (Ev.bind (actEvent_ev _ hs) ?_)
    rw [if_pos h1]
    cases evOk x.f2 with
    | true => exact Ev.pos rfl (Ev.some (by simp))
    | false => exact Ev.neg (by decide) (Ev.some rfl)
  · refine Ev.neg h1 ?_
    rw [if_neg h1]
    by_cases h2 : x.f1 = 2
    · refine Ev.pos h2 ?_
      rw [if_pos h2]
      by_cases h3 : x.f2.data.toList = []
      · refine Ev.pos (by rw [ByteArray.toList_eq]; exact h3) ?_
        rw [decide_eq_true h3, Bool.true_and]
        by_cases h4 : x.f3 ≥ 1
        · refine Ev.pos h4 (Ev.some ?_)
          rw [decide_eq_true (show 1 ≤ x.f3 from h4), Bool.true_and]
        · refine Ev.neg h4 (Ev.some ?_)
          rw [decide_eq_false (show ¬ 1 ≤ x.f3 from h4), Bool.false_and]
      · refine Ev.neg (by rw [ByteArray.toList_eq]; exact h3) (Ev.some ?_)
        rw [decide_eq_false h3, Bool.false_and]
    · refine Ev.neg h2 (Ev.some ?_)
      rw [if_neg h2]
theorem refRightInput_ev (x : S45) (hs : x.f2.size ≤ 1000000) : Ev (fun k => whirligigref22_RightInput.f k x.f0 x.f1 x.f2 x.f3) (rightI x) := by
  unfold whirligigref22_RightInput.f rightI
  by_cases h1 : x.f1 = 1
  · refine Ev.pos h1 ?_
    rw [if_pos h1]
    by_cases h0 : x.f3 = 0
    · refine Ev.pos h0 (Ev.bind (refEvent_ev _ hs) (Ev.some ?_))
      rw [h0]; simp
    · refine Ev.neg h0 (Ev.some ?_)
      rw [show (x.f3 == 0) = false from beq_eq_false_iff_ne.2 h0, Bool.and_false]
  · refine Ev.neg h1 ?_
    rw [if_neg h1]
    by_cases h2 : x.f1 = 2
    · refine Ev.pos h2 ?_
      rw [if_pos h2]
      by_cases h3 : x.f2.data.toList = []
      · refine Ev.pos (by rw [ByteArray.toList_eq]; exact h3) ?_
        rw [decide_eq_true h3, Bool.true_and]
        by_cases h4 : x.f3 ≥ 1
        · refine Ev.pos h4 (Ev.some ?_)
          rw [decide_eq_true (show 1 ≤ x.f3 from h4), Bool.true_and]
        · refine Ev.neg h4 (Ev.some ?_)
          rw [decide_eq_false (show ¬ 1 ≤ x.f3 from h4), Bool.false_and]
      · refine Ev.neg (by rw [ByteArray.toList_eq]; exact h3) (Ev.some ?_)
        rw [decide_eq_false h3, Bool.false_and]
    · refine Ev.neg h2 (Ev.some ?_)
      rw [if_neg h2]
def lastAt (xs : List S45) (j : Nat) : Int := if j = 0 then -1 else (rd_T45 xs ((j : Int) - 1)).f0
theorem rising_l (xs : List S45) (hn : xs.length ≤ 1000000) (hs : ∀ x ∈ xs, x.f2.size ≤ 1000000) (a b len : Int) (d : Nat) : ∀ j, j ≤ xs.length → xs.length - j = d → -1 ≤ lastAt xs j →
    Ev (fun k => tree_Branch_rising.l0 k xs (xs.length : Int) (j : Int) a b len xs) (rising len (lastAt xs j) (xs.drop j)) := by
  induction d with
  | zero =>
    intro j hj hd hl
    refine Ev.succ ?_
    simp only [tree_Branch_rising.l0]
    refine Ev.neg (by omega) (Ev.some ?_)
    rw [List.drop_eq_nil_of_le (by omega)]; rfl
  | succ d ih =>
    intro j hj hd hl
    have hjl : j < xs.length := by omega
    have hlast : lastAt xs (j + 1) = xs[j].f0 := by
      unfold lastAt
      rw [if_neg (by omega), show (((j + 1 : Nat) : Int) - 1) = (j : Int) from by omega, rd45 hjl]
    rw [List.drop_eq_getElem_cons hjl]
    simp only [rising]
    refine Ev.succ ?_
    simp only [tree_Branch_rising.l0]
    rw [rd45 hjl, wrap_at (x := (j : Int) - 1) (by omega) (by omega), wrap_at (x := (j : Int) + 1) (by omega) (by omega)]
    refine Ev.pos (by omega) (Ev.pos (by omega) (Ev.pos (by omega) (Ev.bind (inputRight_ev xs[j] (hs _ (List.getElem_mem hjl))) ?_)))
    cases hr : rightI xs[j] with
    | false => exact Ev.neg (by decide) (Ev.some rfl)
    | true =>
      refine Ev.pos rfl ?_
      rw [Bool.true_and]
      by_cases h1 : xs[j].f0 < 0
      · refine Ev.pos h1 (Ev.some ?_)
        rw [decide_eq_false (by omega), Bool.false_and]
      · refine Ev.neg h1 ?_
        by_cases h2 : xs[j].f0 ≥ len
        · refine Ev.pos h2 (Ev.some ?_)
          rw [decide_eq_false (show ¬ xs[j].f0 < len by omega), Bool.false_and, Bool.and_false]
        · refine Ev.neg h2 ?_
          rw [decide_eq_true (show xs[j].f0 < len by omega), Bool.true_and]
          have hnext := ih (j + 1) (by omega) (by omega) (by rw [hlast]; omega)
          rw [hlast] at hnext
          by_cases h3 : 0 < j
          · have hl2 : lastAt xs j = (rd_T45 xs ((j : Int) - 1)).f0 := by unfold lastAt; rw [if_neg (by omega)]
            refine Ev.pos (by omega) (Ev.pos (by omega) (Ev.pos (by omega) ?_))
            rw [← hl2]
            by_cases h4 : xs[j].f0 ≤ lastAt xs j
            · refine Ev.pos h4 (Ev.some ?_)
              rw [decide_eq_false (by omega), Bool.false_and]
            · refine Ev.neg h4 ?_
              rw [decide_eq_true (by omega), Bool.true_and]
              exact hnext
          · refine Ev.neg (by omega) ?_
            have hl2 : lastAt xs j = -1 := by unfold lastAt; rw [if_pos (by omega)]
            rw [hl2, decide_eq_true (by omega), Bool.true_and]
            exact hnext
theorem rising_ev (xs : List S45) (hn : xs.length ≤ 1000000) (hs : ∀ x ∈ xs, x.f2.size ≤ 1000000) (a b len : Int) : Ev (fun k => tree_Branch_rising.f k a b len xs) (rising len (-1) xs) := by
  unfold tree_Branch_rising.f
  exact rising_l xs hn hs a b len _ 0 (by omega) rfl (by unfold lastAt; simp)
def goodB (len : Int) (xs : List S45) : Bool := decide (0 ≤ len) && (decide (len ≤ 512) && rising len (-1) xs)
theorem branch_l (xs : List S45) (hn : xs.length ≤ 1000000) (hs : ∀ x ∈ xs, x.f2.size ≤ 1000000) (a b len : Int) (d : Nat) : ∀ (j : Nat) (last : Int), j ≤ xs.length → xs.length - j = d →
    Ev (fun k => whirligigref22_branch.l0 k last (j : Int) a b len (xs.map i47)) (rising len last (xs.drop j)) := by
  have hm : (xs.map i47).length = xs.length := List.length_map ..
  induction d with
  | zero =>
    intro j last hj hd
    refine Ev.succ ?_
    simp only [whirligigref22_branch.l0]
    refine Ev.neg (by omega) (Ev.some ?_)
    rw [List.drop_eq_nil_of_le (by omega)]; rfl
  | succ d ih =>
    intro j last hj hd
    have hjl : j < xs.length := by omega
    have e1 : rd_T47 (xs.map i47) (j : Int) = i47 xs[j] := by rw [rd47 (by omega), List.getElem_map]
    rw [List.drop_eq_getElem_cons hjl]
    simp only [rising]
    refine Ev.succ ?_
    simp only [whirligigref22_branch.l0]
    rw [e1, wrap_at (by omega) (by omega)]
    refine Ev.pos (by omega) (Ev.pos (by omega) (Ev.bind (refRightInput_ev xs[j] (hs _ (List.getElem_mem hjl))) ?_))
    have hf : (i47 xs[j]).f0 = xs[j].f0 := rfl
    rw [hf]
    cases hr : rightI xs[j] with
    | false => exact Ev.neg (by decide) (Ev.some rfl)
    | true =>
      refine Ev.pos rfl ?_
      rw [Bool.true_and]
      by_cases h1 : xs[j].f0 ≤ last
      · refine Ev.pos h1 (Ev.some ?_)
        rw [decide_eq_false (by omega), Bool.false_and]
      · refine Ev.neg h1 ?_
        rw [decide_eq_true (by omega), Bool.true_and]
        by_cases h2 : xs[j].f0 ≥ len
        · refine Ev.pos h2 (Ev.some ?_)
          rw [decide_eq_false (show ¬ xs[j].f0 < len by omega), Bool.false_and]
        · refine Ev.neg h2 ?_
          rw [decide_eq_true (show xs[j].f0 < len by omega), Bool.true_and]
          exact ih (j + 1) _ (by omega) (by omega)
theorem branch_ev (xs : List S45) (hn : xs.length ≤ 1000000) (hs : ∀ x ∈ xs, x.f2.size ≤ 1000000) (a b len : Int) : Ev (fun k => whirligigref22_branch.f k a b len (xs.map i47)) (goodB len xs) := by
  have hm : (xs.map i47).length = xs.length := List.length_map ..
  have htrue : Ev (fun k => whirligigref22_branch.j0 k true a b len (xs.map i47)) false := by
    refine Ev.succ ?_
    simp only [whirligigref22_branch.j0]
    exact Ev.pos trivial (Ev.some rfl)
  unfold whirligigref22_branch.f goodB
  by_cases h1 : len < 0
  · rw [decide_eq_false (show ¬ 0 ≤ len by omega), Bool.false_and]
    exact Ev.pos h1 htrue
  · rw [decide_eq_true (show 0 ≤ len by omega), Bool.true_and]
    refine Ev.neg h1 ?_
    by_cases h2 : len > 512
    · rw [decide_eq_false (show ¬ len ≤ 512 by omega), Bool.false_and]
      exact Ev.pos h2 htrue
    · rw [decide_eq_true (show len ≤ 512 by omega), Bool.true_and]
      refine Ev.neg h2 ?_
      by_cases h3 : ((xs.map i47).length : Int) > len
      · rw [decide_eq_true h3]
        have hr : rising len (-1) xs = false := by
          cases hr : rising len (-1) xs with
          | false => rfl
          | true =>
            by_cases h0 : -1 < len
            · have := rising_len hr h0
              omega
            · omega
        rw [hr]
        exact htrue
      · rw [decide_eq_false h3]
        refine Ev.succ ?_
        simp only [whirligigref22_branch.j0]
        exact Ev.neg (by decide) (branch_l xs hn hs a b len _ 0 (-1) (by omega) rfl)
theorem ahead_l (at_ : Int) (xs : List S45) (hn : xs.length ≤ 1000000) (d : Nat) : ∀ (j : Nat) (out : List S45), j ≤ xs.length → xs.length - j = d → out.length ≤ j →
    Ev (fun k => tree_Branch_ahead.l0 k at_ out xs (xs.length : Int) (j : Int)) (out ++ ahead at_ (xs.drop j)) := by
  induction d with
  | zero =>
    intro j out hj hd ho
    refine Ev.succ ?_
    simp only [tree_Branch_ahead.l0]
    refine Ev.neg (by omega) (Ev.some ?_)
    rw [List.drop_eq_nil_of_le (by omega)]
    simp [ahead]
  | succ d ih =>
    intro j out hj hd ho
    have hjl : j < xs.length := by omega
    rw [List.drop_eq_getElem_cons hjl]
    refine Ev.succ ?_
    simp only [tree_Branch_ahead.l0]
    rw [rd45 hjl, wrap_at (by omega) (by omega)]
    refine Ev.pos (by omega) (Ev.pos (by omega) (Ev.pos (by omega) ?_))
    by_cases h : xs[j].f0 < at_
    · refine Ev.pos h (Ev.pos (by omega) ?_)
      have h2 := ih (j + 1) (out ++ [xs[j]]) (by omega) (by omega) (by simp; omega)
      have e : ahead at_ (xs[j] :: xs.drop (j + 1)) = xs[j] :: ahead at_ (xs.drop (j + 1)) := by
        unfold ahead
        rw [List.filter_cons_of_pos (by simpa using h)]
      rw [e, show out ++ xs[j] :: ahead at_ (xs.drop (j + 1)) = (out ++ [xs[j]]) ++ ahead at_ (xs.drop (j + 1)) from by simp]
      exact h2
    · refine Ev.neg h ?_
      have h2 := ih (j + 1) out (by omega) (by omega) (by omega)
      have e : ahead at_ (xs[j] :: xs.drop (j + 1)) = ahead at_ (xs.drop (j + 1)) := by
        unfold ahead
        rw [List.filter_cons_of_neg (by simpa using h)]
      rw [e]
      exact h2
theorem ahead_ev (a b c at_ : Int) (xs : List S45) (hn : xs.length ≤ 1000000) : Ev (fun k => tree_Branch_ahead.f k a b c xs at_) (ahead at_ xs) := by
  unfold tree_Branch_ahead.f
  exact ahead_l at_ xs hn _ 0 [] (by omega) rfl (by simp)
end Go.Proofs.YtbngfhlciebeeaaDoor.Sp
end
section
namespace Go.Proofs.YtbngfhlciebeeaaDoor.L
open Go.RowKit Go.Proofs.YtbngfhlciebeeaaDoorW.PrintWords Go.Proofs.YtbngfhlciebeeaaDoorW.PrintLast Go.Proofs.YtbngfhlciebeeaaDoorW.PrintMore
attribute [local go_sem] max2_int min2_int max_two min_two max_three min_three max_four min_four   -- for this text's walks alone
set_option linter.unusedVariables false
set_option linter.unusedSimpArgs false
def tree_Tree_has.f (l0 : List (S43)) (a1 : Int) : Option (Bool) := if a1 ≥ 0 then (some (decide (a1 < (l0.length : Int)))) else (some false)
set_option maxHeartbeats 8000000 in
set_option maxRecDepth 100000 in
theorem tree_Tree_has.calls (A0 : Option Addr) (c0 : Nat) (l0 : List (S43)) (a1 : Int) (r : Bool) (w : World) (hr0 : Kd.C k43 w A0 l0.length l0) (hc0 : l0.length ≤ c0) (h : tree_Tree_has.f l0 a1 = some r) :
  Calls Tryd.prog 80 #[.slice A0 l0.length c0, .int .i64 a1] w fun e w' => e = .returned (.bool r) ∧ Drawn0 w w' := by
 have HR0 := Aside0.mk hr0
 have HC0 := Aside0.mk hc0
 clear hr0 hc0
 have H : (if a1 ≥ 0 then (some (decide (a1 < (l0.length : Int)))) else (some false)) = some r := h
 clear h
 replace H := iD H
 rcases H with ⟨c3b0, H⟩ | ⟨c3b0, H⟩
 ·obtain rfl := Option.some.inj H
  go_enter Tryd.func80, Tryd.ntmps80
  go_wp2
  go_ret
  exact qN
 obtain rfl := Option.some.inj H
 go_enter Tryd.func80, Tryd.ntmps80
 go_wp2
 go_ret
 exact qN
end Go.Proofs.YtbngfhlciebeeaaDoor.L
end
section
namespace Go.Proofs.YtbngfhlciebeeaaDoor.L
set_option linter.unusedVariables false
set_option linter.unusedSimpArgs false
open Go.RowKit Go.Proofs.YtbngfhlciebeeaaDoorW.PrintWords Go.Proofs.YtbngfhlciebeeaaDoorW.PrintLast Go.Proofs.YtbngfhlciebeeaaDoorW.PrintMore
def idxAt (i : Int) (xs : List S45) : Int := match xs.findIdx? (fun x => x.f0 == i) with | some j => (j : Int) | none => -1
theorem idx_hit {i : Int} {xs : List S45} {j : Nat} (hl : j < xs.length) (hno : ∀ x ∈ xs.take j, x.f0 ≠ i) (he : xs[j].f0 = i) : idxAt i xs = (j : Int) := by
  have h : xs.findIdx? (fun x => x.f0 == i) = some j := by
    rw [List.findIdx?_eq_some_iff_getElem]
    refine ⟨hl, by simpa using he, fun k hk => ?_⟩
    have := hno xs[k] (List.mem_take_iff_getElem.2 ⟨k, by omega, rfl⟩)
    simpa using this
  unfold idxAt
  rw [h]
theorem idx_miss {i : Int} {xs : List S45} (hno : ∀ x ∈ xs, x.f0 ≠ i) : idxAt i xs = -1 := by
  have h : xs.findIdx? (fun x => x.f0 == i) = none := by
    rw [List.findIdx?_eq_none_iff]
    intro x hx
    simpa using hno x hx
  unfold idxAt
  rw [h]
set_option maxHeartbeats 8000000 in
set_option maxRecDepth 100000 in
theorem idx_calls (g : Nat) (i : Int) (A : Option Addr) (c : Nat) (xs : List S45) (w : World) (hr : Kd.C k45 w A xs.length xs) (hc : xs.length ≤ c) (hg : w.cell? ⟨g, 0, none⟩ = some (.int .i64 i)) :
    Calls Tryd.prog 82 #[.slice A xs.length c, .func (.func 83) #[] #[.pointer (some ⟨g, 0, none⟩)]] w fun e w' => e = .returned (.int .i64 (idxAt i xs)) ∧ Below w.heap.size w w' := by
  have HR := Aside0.mk hr
  have HG := Aside0.mk hg
  have HN := hr.2.1
  clear hr hg
  go_enter Tryd.func82, Tryd.ntmps82
  go_wp2
  go_loopg [8] xs.length (fun kq v8 w' => ∃ (j : Nat), v8 = .int .i64 (j : Int) ∧ Aside0 (kq = xs.length - j) ∧ Aside0 (j ≤ xs.length) ∧ Aside0 (∀ x ∈ xs.take j, x.f0 ≠ i) ∧ Aside0 (Below w.heap.size w w'))
  case atStart => exact ⟨0, rfl, ⟨rfl⟩, ⟨Nat.zero_le _⟩, ⟨by simp⟩, ⟨Below.refl _ _⟩⟩
  case round =>
    obtain ⟨j, rfl, hk, hj, hno, HB⟩ := hrel
    by_cases hl : j < xs.length
    · have c1 : decide ((j : Int) < (xs.length : Int)) = true := decide_eq_true (by omega)
      obtain ⟨ad, eA, g0, g1, g2, g3⟩ := at_T45 (Kd.C_below HR.out HB.out) (j : Int) (by omega) (by omega)
      subst eA
      rw [Int.toNat_natCast] at g0 g1 g2 g3
      have hcap := pw_cell_below HB.out HG.out
      have ht := Aside0.mk (show rd_T45 xs (j : Int) = xs[j] by
        unfold rd_T45
        rw [Int.toNat_natCast, List.getD_eq_getElem?_getD, List.getElem?_eq_getElem hl]; rfl)
      have hcapA : (wr.alloc (.cells #[.int .i64 (rd_T45 xs (j : Int)).f0, .int .i64 (rd_T45 xs (j : Int)).f1, .string (rd_T45 xs (j : Int)).f2, .int .i64 (rd_T45 xs (j : Int)).f3] 45)).cell? ⟨g, 0, none⟩ = some (.int .i64 i) :=
        pw_cell_below ((Below.refl wr.heap.size wr).alloc (Nat.le_refl _) _) hcap
      have hBA := Aside0.mk (HB.out.alloc HB.out.size (.cells #[.int .i64 (rd_T45 xs (j : Int)).f0, .int .i64 (rd_T45 xs (j : Int)).f1, .string (rd_T45 xs (j : Int)).f2, .int .i64 (rd_T45 xs (j : Int)).f3] 45))
      clear hcap
      by_cases he : (rd_T45 xs (j : Int)).f0 = i
      · have c2 : ((rd_T45 xs (j : Int)).f0 == i) = true := beq_iff_eq.2 he
        have hidx := Aside0.mk (idx_hit hl hno.out (by rw [← ht.out]; exact he))
        clear he
        go_wp2
        go_ret
        exact ⟨by rw [hidx.out]; rfl, hBA.out⟩
      · have c2 : ((rd_T45 xs (j : Int)).f0 == i) = false := beq_eq_false_iff_ne.2 he
        have hne := Aside0.mk he
        clear he
        go_wp2
        go_roundg (xs.length - (j + 1))
        case rel =>
          refine ⟨j + 1, rfl, ⟨rfl⟩, ⟨hl⟩, ⟨fun x hx => ?_⟩, hBA⟩
          rw [List.take_succ_eq_append_getElem hl] at hx
          rcases List.mem_append.1 hx with h | h
          · exact hno.out x h
          · rw [List.mem_singleton.1 h, ← ht.out]; exact hne.out
        case measure => have := hk.out; omega
    · have c1 : decide ((j : Int) < (xs.length : Int)) = false := decide_eq_false (by omega)
      have hidx := Aside0.mk (idx_miss (i := i) (xs := xs) (fun x hx => hno.out x (by rw [List.take_of_length_le (by omega)]; exact hx)))
      go_wp2
      go_ret
      exact ⟨by rw [hidx.out]; rfl, HB.out⟩
theorem size_alloc1 (w : World) (o : Obj) : (w.alloc o).heap.size = w.heap.size + 1 := by unfold World.alloc; exact Array.size_push ..
theorem size_up (w : World) (o : Obj) : w.heap.size ≤ (w.alloc o).heap.size := by rw [size_alloc1]; omega
def tree_Tree_Input.f (l0 : List S43) (a1 : Int) (a2 : Int) : Option (Int × Int × ByteArray × Int × Bool) :=
  if 0 ≤ a1 ∧ a1 < (l0.length : Int) then
    (if 0 ≤ idxAt a2 (rd_T43 l0 a1).f3 then some ((rd_T45 (rd_T43 l0 a1).f3 (idxAt a2 (rd_T43 l0 a1).f3)).f0, (rd_T45 (rd_T43 l0 a1).f3 (idxAt a2 (rd_T43 l0 a1).f3)).f1, (rd_T45 (rd_T43 l0 a1).f3 (idxAt a2 (rd_T43 l0 a1).f3)).f2, (rd_T45 (rd_T43 l0 a1).f3 (idxAt a2 (rd_T43 l0 a1).f3)).f3, true)
    else some (0, 0, ⟨#[]⟩, 0, false))
  else some (0, 0, ⟨#[]⟩, 0, false)
theorem idxAt_lt {i : Int} {xs : List S45} (h : 0 ≤ idxAt i xs) : idxAt i xs < (xs.length : Int) := by
  unfold idxAt at h ⊢
  cases hx : xs.findIdx? (fun x => x.f0 == i) with
  | none => rw [hx] at h; simp at h
  | some j =>
    rw [List.findIdx?_eq_some_iff_getElem] at hx
    obtain ⟨hl, _⟩ := hx
    simp only
    omega
set_option maxHeartbeats 8000000 in
set_option maxRecDepth 100000 in
theorem tree_Tree_Input.calls (A0 : Option Addr) (c0 : Nat) (l0 : List S43) (a1 : Int) (a2 : Int) (r1 : Int) (r2 : Int) (r3 : ByteArray) (r4 : Int) (r5 : Bool) (w : World) (hr0 : Kd.C k43 w A0 l0.length l0) (hc0 : l0.length ≤ c0) (h : tree_Tree_Input.f l0 a1 a2 = some (r1, r2, r3, r4, r5)) :
    Calls Tryd.prog 42 #[.slice A0 l0.length c0, .int .i64 a1, .int .i64 a2] w fun e w' => e = .returned (.tuple #[.agg #[.int .i64 r1, .int .i64 r2, .string r3, .int .i64 r4], .bool r5]) ∧ Below w.heap.size w w' := by
  have HR0 := Aside0.mk hr0
  have HC0 := Aside0.mk hc0
  clear hr0 hc0
  unfold tree_Tree_Input.f at h
  by_cases hh : 0 ≤ a1 ∧ a1 < (l0.length : Int)
  · rw [if_pos hh] at h
    have hhas : tree_Tree_has.f l0 a1 = some true := by
      unfold tree_Tree_has.f
      rw [if_pos hh.1, decide_eq_true hh.2]
    go_enter Tryd.func42, Tryd.ntmps42
    go_wp2_with (go_at_call 80; refine (tree_Tree_has.calls _ _ l0 a1 true _ (Kd.C_alloc (Kd.C_alloc HR0.out _) _) HC0.out hhas).mono ?_)
    rintro e w1 ⟨rfl, hd⟩
    obtain ⟨nd, rfl⟩ := hd
    have b5 := Aside0.mk (blk_drewN (blk_alloc (blk_new w (.cells #[.int .i64 a2] 3)) (.cells #[.int .i64 0, .int .i64 0, .string ⟨#[]⟩, .int .i64 0] 45)) nd)
    have b6 := Aside0.mk (blk_drewN (blk_new (w.alloc (.cells #[.int .i64 a2] 3)) (.cells #[.int .i64 0, .int .i64 0, .string ⟨#[]⟩, .int .i64 0] 45)) nd)
    have hB := Aside0.mk (pw_below_drewN (((Below.refl w.heap.size w).alloc (Nat.le_refl _) (.cells #[.int .i64 a2] 3)).alloc (size_up w (.cells #[.int .i64 a2] 3)) (.cells #[.int .i64 0, .int .i64 0, .string ⟨#[]⟩, .int .i64 0] 45)) nd)
    rw [size_alloc1] at b6
    generalize ((w.alloc (.cells #[.int .i64 a2] 3)).alloc (.cells #[.int .i64 0, .int .i64 0, .string ⟨#[]⟩, .int .i64 0] 45)).drewN nd = w1 at b5 b6 hB ⊢
    obtain ⟨n, rfl⟩ := Int.eq_ofNat_of_zero_le hh.1
    have c1 : decide (0 ≤ (n : Int)) = true := decide_eq_true hh.1
    have c2 : decide ((n : Int) < (l0.length : Int)) = true := decide_eq_true hh.2
    have hn : n < l0.length := by omega
    obtain ⟨ad, A3, c3, eA, g0, g1, g2, g3, hl3, hr3⟩ := at_T43 (Kd.C_below HR0.out hB.out) (n : Int) hh.1 (by omega)
    rw [Int.toNat_natCast] at g0 g1 g2 g3
    have HL3 := Aside0.mk hl3
    have HR3 := Aside0.mk hr3
    clear hl3 hr3
    have hcap : w1.cell? ⟨w.heap.size, 0, none⟩ = some (.int .i64 a2) := blk_cell b5.out 0
    subst eA
    go_wp2_with (go_at_call 82; refine (idx_calls w.heap.size a2 A3 c3 (rd_T43 l0 (n : Int)).f3 _ HR3.out HL3.out hcap).mono ?_)
    rintro e w2 ⟨rfl, hb2⟩
    have hB2 := Aside0.mk (below_step hB.out hb2)
    have b62 := Aside0.mk (blk_below b6.out hb2)
    have HR32 := Aside0.mk (Kd.C_below HR3.out hb2)
    have k0 := pw_cell_below hb2 g0
    have k1 := pw_cell_below hb2 g1
    have k2 := pw_cell_below hb2 g2
    have k3 := pw_cell_below hb2 g3
    clear g0 g1 g2 g3 hcap hb2 b6 b5
    have d0 := blk_cell b62.out 0
    have d1 := blk_cell b62.out 1
    have d2 := blk_cell b62.out 2
    have d3 := blk_cell b62.out 3
    have f0 := blk_frozen b62.out 0
    have f1 := blk_frozen b62.out 1
    have f2 := blk_frozen b62.out 2
    have f3 := blk_frozen b62.out 3
    by_cases hx : 0 ≤ idxAt a2 (rd_T43 l0 (n : Int)).f3
    · rw [if_pos hx] at h
      have hx2 := idxAt_lt hx
      generalize idxAt a2 (rd_T43 l0 (n : Int)).f3 = ix at h hx hx2 ⊢
      obtain ⟨m, rfl⟩ := Int.eq_ofNat_of_zero_le hx
      have c4 : decide ((m : Int) < 0) = false := decide_eq_false (by omega)
      have c5 : decide (0 ≤ (m : Int)) = true := decide_eq_true hx
      have c6 : decide ((m : Int) < ((rd_T43 l0 (n : Int)).f3.length : Int)) = true := decide_eq_true hx2
      have hm : m < (rd_T43 l0 (n : Int)).f3.length := by omega
      obtain ⟨ad5, eA5, q0, q1, q2, q3⟩ := at_T45 HR32.out (m : Int) hx (by omega)
      rw [Int.toNat_natCast] at q0 q1 q2 q3
      subst eA5
      simp only [Option.some.injEq, Prod.mk.injEq] at h
      obtain ⟨rfl, rfl, rfl, rfl, rfl⟩ := h
      go_wp2
      refine bodyPost_ret (results_ct rfl _ _ (w.heap.size + 1) 45 #[.int .i64 (rd_T45 (rd_T43 l0 (n : Int)).f3 (m : Int)).f0, .int .i64 (rd_T45 (rd_T43 l0 (n : Int)).f3 (m : Int)).f1, .string (rd_T45 (rd_T43 l0 (n : Int)).f3 (m : Int)).f2, .int .i64 (rd_T45 (rd_T43 l0 (n : Int)).f3 (m : Int)).f3] (0, 0) _ rfl (by refine blk_put (cs := #[.int .i64 (rd_T45 (rd_T43 l0 (n : Int)).f3 (m : Int)).f0, .int .i64 (rd_T45 (rd_T43 l0 (n : Int)).f3 (m : Int)).f1, .string (rd_T45 (rd_T43 l0 (n : Int)).f3 (m : Int)).f2, .int .i64 0]) ?_ 3 _ rfl; refine blk_put (cs := #[.int .i64 (rd_T45 (rd_T43 l0 (n : Int)).f3 (m : Int)).f0, .int .i64 (rd_T45 (rd_T43 l0 (n : Int)).f3 (m : Int)).f1, .string ⟨#[]⟩, .int .i64 0]) ?_ 2 _ rfl; refine blk_put (cs := #[.int .i64 (rd_T45 (rd_T43 l0 (n : Int)).f3 (m : Int)).f0, .int .i64 0, .string ⟨#[]⟩, .int .i64 0]) ?_ 1 _ rfl; refine blk_put (cs := #[.int .i64 0, .int .i64 0, .string ⟨#[]⟩, .int .i64 0]) ?_ 0 _ rfl; exact b62.out) Tryd.underlying45 rfl (by kernel_rfl)) rfl ?_
      exact ⟨rfl, below_set (below_set (below_set (below_set hB2.out (Nat.le_succ _)) (Nat.le_succ _)) (Nat.le_succ _)) (Nat.le_succ _)⟩
    · rw [if_neg hx] at h
      have c4 : decide (idxAt a2 (rd_T43 l0 (n : Int)).f3 < 0) = true := decide_eq_true (by omega)
      simp only [Option.some.injEq, Prod.mk.injEq] at h
      obtain ⟨rfl, rfl, rfl, rfl, rfl⟩ := h
      go_wp2
      refine bodyPost_ret (results_ct rfl _ _ (w.heap.size + 1) 45 #[.int .i64 0, .int .i64 0, .string ⟨#[]⟩, .int .i64 0] (0, 0) _ rfl (by refine blk_put (cs := #[.int .i64 0, .int .i64 0, .string ⟨#[]⟩, .int .i64 0]) ?_ 3 _ rfl; refine blk_put (cs := #[.int .i64 0, .int .i64 0, .string ⟨#[]⟩, .int .i64 0]) ?_ 2 _ rfl; refine blk_put (cs := #[.int .i64 0, .int .i64 0, .string ⟨#[]⟩, .int .i64 0]) ?_ 1 _ rfl; refine blk_put (cs := #[.int .i64 0, .int .i64 0, .string ⟨#[]⟩, .int .i64 0]) ?_ 0 _ rfl; exact b62.out) Tryd.underlying45 rfl (by kernel_rfl)) rfl ?_
      exact ⟨rfl, below_set (below_set (below_set (below_set hB2.out (Nat.le_succ _)) (Nat.le_succ _)) (Nat.le_succ _)) (Nat.le_succ _)⟩
  · rw [if_neg hh] at h
    have hhas : tree_Tree_has.f l0 a1 = some false := by
      unfold tree_Tree_has.f
      by_cases h1 : a1 ≥ 0
      · rw [if_pos h1, decide_eq_false (fun h2 => hh ⟨h1, h2⟩)]
      · rw [if_neg h1]
    simp only [Option.some.injEq, Prod.mk.injEq] at h
    obtain ⟨rfl, rfl, rfl, rfl, rfl⟩ := h
    go_enter Tryd.func42, Tryd.ntmps42
    go_wp2_with (go_at_call 80; refine (tree_Tree_has.calls _ _ l0 a1 false _ (Kd.C_alloc (Kd.C_alloc HR0.out _) _) HC0.out hhas).mono ?_)
    rintro e w1 ⟨rfl, hd⟩
    obtain ⟨nd, rfl⟩ := hd
    have b5 := Aside0.mk (blk_drewN (blk_alloc (blk_new w (.cells #[.int .i64 a2] 3)) (.cells #[.int .i64 0, .int .i64 0, .string ⟨#[]⟩, .int .i64 0] 45)) nd)
    have b6 := Aside0.mk (blk_drewN (blk_new (w.alloc (.cells #[.int .i64 a2] 3)) (.cells #[.int .i64 0, .int .i64 0, .string ⟨#[]⟩, .int .i64 0] 45)) nd)
    have hB := Aside0.mk (pw_below_drewN (((Below.refl w.heap.size w).alloc (Nat.le_refl _) (.cells #[.int .i64 a2] 3)).alloc (size_up w (.cells #[.int .i64 a2] 3)) (.cells #[.int .i64 0, .int .i64 0, .string ⟨#[]⟩, .int .i64 0] 45)) nd)
    rw [size_alloc1] at b6
    generalize ((w.alloc (.cells #[.int .i64 a2] 3)).alloc (.cells #[.int .i64 0, .int .i64 0, .string ⟨#[]⟩, .int .i64 0] 45)).drewN nd = w1 at b5 b6 hB ⊢
    have d0 := blk_cell b6.out 0
    have d1 := blk_cell b6.out 1
    have d2 := blk_cell b6.out 2
    have d3 := blk_cell b6.out 3
    have f0 := blk_frozen b6.out 0
    have f1 := blk_frozen b6.out 1
    have f2 := blk_frozen b6.out 2
    have f3 := blk_frozen b6.out 3
    go_wp2
    refine bodyPost_ret (results_ct rfl _ _ (w.heap.size + 1) 45 #[.int .i64 0, .int .i64 0, .string ⟨#[]⟩, .int .i64 0] (0, 0) _ rfl (by refine blk_put (cs := #[.int .i64 0, .int .i64 0, .string ⟨#[]⟩, .int .i64 0]) ?_ 3 _ rfl; refine blk_put (cs := #[.int .i64 0, .int .i64 0, .string ⟨#[]⟩, .int .i64 0]) ?_ 2 _ rfl; refine blk_put (cs := #[.int .i64 0, .int .i64 0, .string ⟨#[]⟩, .int .i64 0]) ?_ 1 _ rfl; refine blk_put (cs := #[.int .i64 0, .int .i64 0, .string ⟨#[]⟩, .int .i64 0]) ?_ 0 _ rfl; exact b6.out) Tryd.underlying45 rfl (by kernel_rfl)) rfl ?_
    exact ⟨rfl, below_set (below_set (below_set (below_set hB.out (Nat.le_succ _)) (Nat.le_succ _)) (Nat.le_succ _)) (Nat.le_succ _)⟩
end Go.Proofs.YtbngfhlciebeeaaDoor.L
end
