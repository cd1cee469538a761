/- Printed and hand-written steps towards the row (TreeMoves), those that it reaches. -/
import Derived.Test.YtbngfhlciebeeaaDoorTreeMovesG4
import Derived.Test.YtbngfhlciebeeaaDoorTreeMovesLxf32
import Derived.Test.YtbngfhlciebeeaaDoorTreeMovesG15
import Derived.Test.YtbngfhlciebeeaaDoorTreeMovesG16
import Derived.Test.YtbngfhlciebeeaaDoorTreeMovesG17
section
namespace Go.Proofs.YtbngfhlciebeeaaDoor.L
open Go.RowKit Go.Proofs.YtbngfhlciebeeaaDoorW.PrintWords Go.Proofs.YtbngfhlciebeeaaDoorW.PrintLast Go.Proofs.YtbngfhlciebeeaaDoorW.PrintMore
attribute [local go_sem] max2_int min2_int max_two min_two max_three min_three max_four min_four   -- for this text's walks alone
set_option linter.unusedVariables false
set_option linter.unusedSimpArgs false
mutual
def whirligigref22_branch.j0 : Nat → Bool → Int → Int → Int → List (S47) → Option (Bool)
 | 0, _, _, _, _, _ => none
 | k + 1, x21, x460000, x460001, x460002, x460003 => if x21 = true then (some false) else (whirligigref22_branch.l0 k (-1) 0 x460000 x460001 x460002 x460003)
def whirligigref22_branch.l0 : Nat → Int → Int → Int → Int → Int → List (S47) → Option (Bool)
 | 0, _, _, _, _, _, _ => none
 | k + 1, x3, x4, x460000, x460001, x460002, x460003 => if x4 < (x460003.length : Int) then (if 0 ≤ x4 then ((whirligigref22_RightInput.f k ((rd_T47 x460003 x4).f0) ((rd_T47 x460003 x4).f1) ((rd_T47 x460003 x4).f2) ((rd_T47 x460003 x4).f3)).bind fun t462 => (if t462 = true then (if ((rd_T47 x460003 x4).f0) ≤ x3 then (some false) else (if ((rd_T47 x460003 x4).f0) ≥ x460002 then (some false) else (whirligigref22_branch.l0 k ((rd_T47 x460003 x4).f0) (wrap64 (x4 + 1)) x460000 x460001 x460002 x460003))) else (some false))) else (none)) else (some true)
end
def whirligigref22_branch.f (k : Nat) (a0_0 : Int) (a0_1 : Int) (a0_2 : Int) (l0_3 : List (S47)) : Option (Bool) := if a0_2 < 0 then (whirligigref22_branch.j0 k true a0_0 a0_1 a0_2 l0_3) else (if a0_2 > 512 then (whirligigref22_branch.j0 k true a0_0 a0_1 a0_2 l0_3) else (whirligigref22_branch.j0 k (decide ((l0_3.length : Int) > a0_2)) a0_0 a0_1 a0_2 l0_3))
set_option maxHeartbeats 8000000 in
set_option maxRecDepth 100000 in
theorem whirligigref22_branch.calls (k : Nat) (a0_0 : Int) (a0_1 : Int) (a0_2 : Int) (A0_3 : Option Addr) (c0_3 : Nat) (l0_3 : List (S47)) (r : Bool) (w : World) (hr0_3 : Kd.C k47 w A0_3 l0_3.length l0_3) (hc0_3 : l0_3.length ≤ c0_3) (h : whirligigref22_branch.f k a0_0 a0_1 a0_2 l0_3 = some r) :
  Calls Tryd.prog 79 #[.agg #[.int .i64 a0_0, .int .i64 a0_1, .int .i64 a0_2, .slice A0_3 l0_3.length c0_3]] w fun e w' => e = .returned (.bool r) ∧ Below w.heap.size w w' := by
 have hu65 := Tryd.underlying65
 have hu47 := Tryd.underlying47
 have HR0_3 := Aside0.mk hr0_3
 have HC0_3 := Aside0.mk hc0_3
 clear hr0_3 hc0_3
 have HB := Aside0.mk (Below.refl w.heap.size w)
 have H : (if a0_2 < 0 then (whirligigref22_branch.j0 k true a0_0 a0_1 a0_2 l0_3) else (if a0_2 > 512 then (whirligigref22_branch.j0 k true a0_0 a0_1 a0_2 l0_3) else (whirligigref22_branch.j0 k (decide ((l0_3.length : Int) > a0_2)) a0_0 a0_1 a0_2 l0_3))) = some r := h
 clear h
 have HC2 := Aside0.mk H
 clear H
 go_enter Tryd.func79, Tryd.ntmps79
 go_upto_region 1 with (first | ((with_reducible refine gate_dst (N := 1) rfl ?_); (try (refine gate_guard (by rfl) ?_; dsimp only)); refine box_event ?hg (N := 1) ?hd (cs := #[.int .i64 a0_0, .int .i64 a0_1, .int .i64 a0_2, .slice A0_3 l0_3.length c0_3]) (t := 65) ?hr ?_; (case hd => rfl); (case hg => rfl); (case hr => first | (go_simp; done) | (go_simp; rfl)); intro gb459 hg w3 hbox hb; have BK459 := Aside0.mk (hbox); have GW459 := geS hg; have GE459 := geS hg; replace HB := bst hb; clear hb hbox hg))
 (try simp only [Act.put, List.setIfInBounds_toArray, List.set_cons_zero, List.set_cons_succ])
 go_cut [21] (fun v21 wc => ∃ (kq : Nat) (x21_1 : Bool), v21 = .bool x21_1 ∧ Aside0 (whirligigref22_branch.j0 kq x21_1 a0_0 a0_1 a0_2 l0_3 = some r) ∧ Aside0 (kq ≤ k) ∧ Aside0 (wc.heap[gb459]? = some (.cells #[.int .i64 a0_0, .int .i64 a0_1, .int .i64 a0_2, (.slice A0_3 l0_3.length c0_3)] 65 (0, 0))) ∧ Aside0 (Below w.heap.size w wc))
 case first =>
  have H := HC2.out
  clear HC2
  by_cases c4 : a0_2 < 0
  ·rw [if_pos c4] at H
   have c4b0 := decide_eq_true c4
   clear c4
   (first | rw [c4b0] | (simp only [i64_w, i32_w]; rw [c4b0]) | skip)
   have H' := Aside0.mk H
   clear H
   obtain ⟨hcz5_0, hcz5_1, hcz5_2, hcz5_3, hfz5_0, hfz5_1, hfz5_2, hfz5_3⟩ := cells4 BK459.out
   go_wp2
   go_meet
   case rel => exact ⟨_, (true), (by first | rfl | (simp; done) | (simp [*]; done)), H', ⟨by first | omega | exact Nat.le_refl _⟩, ⟨qK⟩, ⟨qB⟩⟩
  ·rw [if_neg c4] at H
   have c4b0 := decide_eq_false c4
   clear c4
   (first | rw [c4b0] | (simp only [i64_w, i32_w]; rw [c4b0]) | skip)
   by_cases c6 : a0_2 > 512
   ·rw [if_pos c6] at H
    have c6b0 := decide_eq_true c6
    clear c6
    have H' := Aside0.mk H
    clear H
    obtain ⟨hcz7_0, hcz7_1, hcz7_2, hcz7_3, hfz7_0, hfz7_1, hfz7_2, hfz7_3⟩ := cells4 BK459.out
    go_wp2
    go_meet
    case rel => exact ⟨_, (true), (by first | rfl | (simp; done) | (simp [*]; done)), H', ⟨by first | omega | exact Nat.le_refl _⟩, ⟨qK⟩, ⟨qB⟩⟩
   ·rw [if_neg c6] at H
    have c6b0 := decide_eq_false c6
    clear c6
    have H' := Aside0.mk H
    clear H
    obtain ⟨hcz8_0, hcz8_1, hcz8_2, hcz8_3, hfz8_0, hfz8_1, hfz8_2, hfz8_3⟩ := cells4 BK459.out
    go_wp2
    go_meet
    case rel => exact ⟨_, (decide ((l0_3.length : Int) > a0_2)), (by first | rfl | (simp; done) | (simp [*]; done)), H', ⟨by first | omega | exact Nat.le_refl _⟩, ⟨qK⟩, ⟨qB⟩⟩
 case rest =>
  clear HC2
  try clear p2
  try clear c4
  try clear c4b0
  try clear c6
  try clear c6b0
  try clear c7
  try clear hcz5_0 hcz5_1 hcz5_2 hcz5_3 hfz5_0 hfz5_1 hfz5_2 hfz5_3
  try clear hcz7_0 hcz7_1 hcz7_2 hcz7_3 hfz7_0 hfz7_1 hfz7_2 hfz7_3
  try clear hcz8_0 hcz8_1 hcz8_2 hcz8_3 hfz8_0 hfz8_1 hfz8_2 hfz8_3
  obtain ⟨kq, x21_1, rfl, HA, HJ1, BK459, HB⟩ := hcut
  cases kq with
  | zero => exact absurd HA.out (by simp [whirligigref22_branch.j0])
  | succ kj1 =>
   have H := HA.out
   clear HA
   simp only [whirligigref22_branch.j0] at H
   by_cases c9 : x21_1 = true
   ·subst c9
    rw [if_pos rfl] at H
    obtain rfl := Option.some.inj H
    go_wp2
    go_ret
    exact ⟨qR, qB⟩
   ·replace c9 := Bool.eq_false_iff.mpr c9
    subst c9
    rw [if_neg (show ¬ (false = true) by decide)] at H
    have H' := Aside0.mk H
    clear H
    go_wp2
    go_loopg [3, 4] kj1 (fun kq v3 v4 w' => ∃ (x3_2 : Int) (x4_2 : Int), v3 = .int .i64 x3_2 ∧ v4 = .int .i64 x4_2 ∧ Aside0 (whirligigref22_branch.l0 kq x3_2 x4_2 a0_0 a0_1 a0_2 l0_3 = some r) ∧ Aside0 (kq ≤ kj1) ∧ Aside0 (w'.heap[gb459]? = some (.cells #[.int .i64 a0_0, .int .i64 a0_1, .int .i64 a0_2, (.slice A0_3 l0_3.length c0_3)] 65 (0, 0))) ∧ Aside0 (Below w.heap.size w w'))
    case atStart => exact ⟨((-1)), (0), (by first | rfl | (simp; done) | (simp [*]; done)), (by first | rfl | (simp; done) | (simp [*]; done)), H', ⟨Nat.le_refl _⟩, ⟨qK⟩, ⟨qB⟩⟩
    case round =>
     clear H'
     try clear p2 p2
     try clear c4
     try clear c4b0
     try clear c6
     try clear c6b0
     try clear c7
     try clear c9
     try clear hcz5_0 hcz5_1 hcz5_2 hcz5_3 hfz5_0 hfz5_1 hfz5_2 hfz5_3
     try clear hcz7_0 hcz7_1 hcz7_2 hcz7_3 hfz7_0 hfz7_1 hfz7_2 hfz7_3
     try clear hcz8_0 hcz8_1 hcz8_2 hcz8_3 hfz8_0 hfz8_1 hfz8_2 hfz8_3
     obtain ⟨x3_2, x4_2, rfl, rfl, HA, HK2, BK459, HB⟩ := hrel
     cases gk with
     | zero => exact absurd HA.out (by simp [whirligigref22_branch.l0])
     | succ k2 =>
      have H := HA.out
      clear HA
      simp only [whirligigref22_branch.l0] at H
      by_cases c10 : x4_2 < (l0_3.length : Int)
      ·rw [if_pos c10] at H
       have c10b0 := decide_eq_true c10
       clear c10
       by_cases c11 : 0 ≤ x4_2
       ·rw [if_pos c11] at H
        have c11b0 := decide_eq_true c11
        clear c11
        replace H := Option.bind_eq_some_iff.mp H
        obtain ⟨t462, A120, H⟩ := H
        (try dsimp -simprocs only at H)
        have A12 := Aside0.mk A120
        clear A120
        by_cases c13 : t462 = true
        ·subst c13
         rw [if_pos rfl] at H
         by_cases c14 : ((rd_T47 l0_3 x4_2).f0) ≤ x3_2
         ·rw [if_pos c14] at H
          have c14b0 := decide_eq_true c14
          clear c14
          obtain rfl := Option.some.inj H
          obtain ⟨hcz15_0, hcz15_1, hcz15_2, hcz15_3, hfz15_0, hfz15_1, hfz15_2, hfz15_3⟩ := cells4 BK459.out
          have p460 : 0 ≤ (x4_2 : Int) := qD
          have q460 : x4_2 < (l0_3.length : Int) := qD
          obtain ⟨ad460, e460, hx460_0, hx460_1, hx460_2, hx460_3⟩ := at_T47 (Kd.C_below HR0_3.out HB.out) x4_2 p460 q460
          cases e460
          replace p460 := eq_true p460
          replace q460 := eq_true q460
          go_wp2_with (first | ((with_reducible refine gate_dst (N := 5) rfl ?_); (try (refine gate_guard (by rfl) ?_; dsimp only)); refine box_event ?hg (N := 5) ?hd (cs := #[.int .i64 0, .int .i64 0, .string (⟨#[]⟩ : ByteArray), .int .i64 0]) (t := 47) ?hr ?_; (case hd => rfl); (case hg => rfl); (case hr => first | (go_simp; done) | (go_simp; rfl)); intro gb461 hg w16 hbox hb; have BK461 := Aside0.mk (hbox); have GW461 := geS hg; have GE461 := geS hg; have NB459_461 := neS gb459 hg; have NB461_459 := neT gb459 hg; replace BK459 := kb gb459 hb; replace HB := bst hb; clear hb hbox hg; have hnb17 := NB461_459.out; have hnc17 := NB459_461.out; obtain ⟨hcz18_0, hcz18_1, hcz18_2, hcz18_3, hfz18_0, hfz18_1, hfz18_2, hfz18_3⟩ := cells4 BK461.out) | (refine gl (some 35) #[.agg #[.int .i64 ((rd_T47 l0_3 x4_2).f0), .int .i64 ((rd_T47 l0_3 x4_2).f1), .string ((rd_T47 l0_3 x4_2).f2), .int .i64 ((rd_T47 l0_3 x4_2).f3)]] Tryd.func34 ?_; (with_reducible refine (whirligigref22_RightInput.calls k2 ((rd_T47 l0_3 x4_2).f0) ((rd_T47 l0_3 x4_2).f1) ((rd_T47 l0_3 x4_2).f2) ((rd_T47 l0_3 x4_2).f3) true _ A12.out).mono ?_); rintro e w19 ⟨rfl, hb⟩; refine ⟨_, rfl, ?_⟩; replace BK459 := kb gb459 hb; replace BK461 := kp gb461 (.cells #[.int .i64 ((rd_T47 l0_3 x4_2).f0), .int .i64 ((rd_T47 l0_3 x4_2).f1), .string ((rd_T47 l0_3 x4_2).f2), .int .i64 ((rd_T47 l0_3 x4_2).f3)] 47 (0, 0)) hb; replace HB := bst hb; (try clear hb); obtain ⟨hcz20_0, hcz20_1, hcz20_2, hcz20_3, hfz20_0, hfz20_1, hfz20_2, hfz20_3⟩ := cells4 BK461.out))
          go_ret
          exact ⟨qR, qB⟩
         ·rw [if_neg c14] at H
          have c14b0 := decide_eq_false c14
          clear c14
          by_cases c21 : ((rd_T47 l0_3 x4_2).f0) ≥ a0_2
          ·rw [if_pos c21] at H
           have c21b0 := decide_eq_true c21
           clear c21
           obtain rfl := Option.some.inj H
           obtain ⟨hcz22_0, hcz22_1, hcz22_2, hcz22_3, hfz22_0, hfz22_1, hfz22_2, hfz22_3⟩ := cells4 BK459.out
           have p460 : 0 ≤ (x4_2 : Int) := qD
           have q460 : x4_2 < (l0_3.length : Int) := qD
           obtain ⟨ad460, e460, hx460_0, hx460_1, hx460_2, hx460_3⟩ := at_T47 (Kd.C_below HR0_3.out HB.out) x4_2 p460 q460
           cases e460
           replace p460 := eq_true p460
           replace q460 := eq_true q460
           go_wp2_with (first | ((with_reducible refine gate_dst (N := 5) rfl ?_); (try (refine gate_guard (by rfl) ?_; dsimp only)); refine box_event ?hg (N := 5) ?hd (cs := #[.int .i64 0, .int .i64 0, .string (⟨#[]⟩ : ByteArray), .int .i64 0]) (t := 47) ?hr ?_; (case hd => rfl); (case hg => rfl); (case hr => first | (go_simp; done) | (go_simp; rfl)); intro gb461 hg w23 hbox hb; have BK461 := Aside0.mk (hbox); have GW461 := geS hg; have GE461 := geS hg; have NB459_461 := neS gb459 hg; have NB461_459 := neT gb459 hg; replace BK459 := kb gb459 hb; replace HB := bst hb; clear hb hbox hg; have hnb24 := NB461_459.out; have hnc24 := NB459_461.out; obtain ⟨hcz25_0, hcz25_1, hcz25_2, hcz25_3, hfz25_0, hfz25_1, hfz25_2, hfz25_3⟩ := cells4 BK461.out) | (refine gl (some 35) #[.agg #[.int .i64 ((rd_T47 l0_3 x4_2).f0), .int .i64 ((rd_T47 l0_3 x4_2).f1), .string ((rd_T47 l0_3 x4_2).f2), .int .i64 ((rd_T47 l0_3 x4_2).f3)]] Tryd.func34 ?_; (with_reducible refine (whirligigref22_RightInput.calls k2 ((rd_T47 l0_3 x4_2).f0) ((rd_T47 l0_3 x4_2).f1) ((rd_T47 l0_3 x4_2).f2) ((rd_T47 l0_3 x4_2).f3) true _ A12.out).mono ?_); rintro e w26 ⟨rfl, hb⟩; refine ⟨_, rfl, ?_⟩; replace BK459 := kb gb459 hb; replace BK461 := kp gb461 (.cells #[.int .i64 ((rd_T47 l0_3 x4_2).f0), .int .i64 ((rd_T47 l0_3 x4_2).f1), .string ((rd_T47 l0_3 x4_2).f2), .int .i64 ((rd_T47 l0_3 x4_2).f3)] 47 (0, 0)) hb; replace HB := bst hb; (try clear hb); obtain ⟨hcz27_0, hcz27_1, hcz27_2, hcz27_3, hfz27_0, hfz27_1, hfz27_2, hfz27_3⟩ := cells4 BK461.out; obtain ⟨hcz28_0, hcz28_1, hcz28_2, hcz28_3, hfz28_0, hfz28_1, hfz28_2, hfz28_3⟩ := cells4 BK459.out))
           go_ret
           exact ⟨qR, qB⟩
          ·rw [if_neg c21] at H
           have c21b0 := decide_eq_false c21
           clear c21
           have H' := Aside0.mk H
           clear H
           obtain ⟨hcz29_0, hcz29_1, hcz29_2, hcz29_3, hfz29_0, hfz29_1, hfz29_2, hfz29_3⟩ := cells4 BK459.out
           have p460 : 0 ≤ (x4_2 : Int) := qD
           have q460 : x4_2 < (l0_3.length : Int) := qD
           obtain ⟨ad460, e460, hx460_0, hx460_1, hx460_2, hx460_3⟩ := at_T47 (Kd.C_below HR0_3.out HB.out) x4_2 p460 q460
           cases e460
           replace p460 := eq_true p460
           replace q460 := eq_true q460
           go_wp2_with (first | ((with_reducible refine gate_dst (N := 5) rfl ?_); (try (refine gate_guard (by rfl) ?_; dsimp only)); refine box_event ?hg (N := 5) ?hd (cs := #[.int .i64 0, .int .i64 0, .string (⟨#[]⟩ : ByteArray), .int .i64 0]) (t := 47) ?hr ?_; (case hd => rfl); (case hg => rfl); (case hr => first | (go_simp; done) | (go_simp; rfl)); intro gb461 hg w30 hbox hb; have BK461 := Aside0.mk (hbox); have GW461 := geS hg; have GE461 := geS hg; have NB459_461 := neS gb459 hg; have NB461_459 := neT gb459 hg; replace BK459 := kb gb459 hb; replace HB := bst hb; clear hb hbox hg; have hnb31 := NB461_459.out; have hnc31 := NB459_461.out; obtain ⟨hcz32_0, hcz32_1, hcz32_2, hcz32_3, hfz32_0, hfz32_1, hfz32_2, hfz32_3⟩ := cells4 BK461.out) | (refine gl (some 35) #[.agg #[.int .i64 ((rd_T47 l0_3 x4_2).f0), .int .i64 ((rd_T47 l0_3 x4_2).f1), .string ((rd_T47 l0_3 x4_2).f2), .int .i64 ((rd_T47 l0_3 x4_2).f3)]] Tryd.func34 ?_; (with_reducible refine (whirligigref22_RightInput.calls k2 ((rd_T47 l0_3 x4_2).f0) ((rd_T47 l0_3 x4_2).f1) ((rd_T47 l0_3 x4_2).f2) ((rd_T47 l0_3 x4_2).f3) true _ A12.out).mono ?_); rintro e w33 ⟨rfl, hb⟩; refine ⟨_, rfl, ?_⟩; replace BK459 := kb gb459 hb; replace BK461 := kp gb461 (.cells #[.int .i64 ((rd_T47 l0_3 x4_2).f0), .int .i64 ((rd_T47 l0_3 x4_2).f1), .string ((rd_T47 l0_3 x4_2).f2), .int .i64 ((rd_T47 l0_3 x4_2).f3)] 47 (0, 0)) hb; replace HB := bst hb; (try clear hb); obtain ⟨hcz34_0, hcz34_1, hcz34_2, hcz34_3, hfz34_0, hfz34_1, hfz34_2, hfz34_3⟩ := cells4 BK461.out; obtain ⟨hcz35_0, hcz35_1, hcz35_2, hcz35_3, hfz35_0, hfz35_1, hfz35_2, hfz35_3⟩ := cells4 BK459.out))
           go_roundg k2
           case measure => have := HJ1.out; have := HK2.out; omega
           case rel => exact ⟨((rd_T47 l0_3 x4_2).f0), (wrap64 (x4_2 + 1)), (by first | rfl | (simp; done) | (simp [*]; done)), (by first | rfl | (simp; done) | (simp [*]; done)), H', ⟨by have := HJ1.out; have := HK2.out; omega⟩, ⟨qK⟩, ⟨qB⟩⟩
        ·replace c13 := Bool.eq_false_iff.mpr c13
         subst c13
         rw [if_neg (show ¬ (false = true) by decide)] at H
         obtain rfl := Option.some.inj H
         obtain ⟨hcz36_0, hcz36_1, hcz36_2, hcz36_3, hfz36_0, hfz36_1, hfz36_2, hfz36_3⟩ := cells4 BK459.out
         have p460 : 0 ≤ (x4_2 : Int) := qD
         have q460 : x4_2 < (l0_3.length : Int) := qD
         obtain ⟨ad460, e460, hx460_0, hx460_1, hx460_2, hx460_3⟩ := at_T47 (Kd.C_below HR0_3.out HB.out) x4_2 p460 q460
         cases e460
         replace p460 := eq_true p460
         replace q460 := eq_true q460
         go_wp2_with (first | ((with_reducible refine gate_dst (N := 5) rfl ?_); (try (refine gate_guard (by rfl) ?_; dsimp only)); refine box_event ?hg (N := 5) ?hd (cs := #[.int .i64 0, .int .i64 0, .string (⟨#[]⟩ : ByteArray), .int .i64 0]) (t := 47) ?hr ?_; (case hd => rfl); (case hg => rfl); (case hr => first | (go_simp; done) | (go_simp; rfl)); intro gb461 hg w37 hbox hb; have BK461 := Aside0.mk (hbox); have GW461 := geS hg; have GE461 := geS hg; have NB459_461 := neS gb459 hg; have NB461_459 := neT gb459 hg; replace BK459 := kb gb459 hb; replace HB := bst hb; clear hb hbox hg; have hnb38 := NB461_459.out; have hnc38 := NB459_461.out; obtain ⟨hcz39_0, hcz39_1, hcz39_2, hcz39_3, hfz39_0, hfz39_1, hfz39_2, hfz39_3⟩ := cells4 BK461.out) | (refine gl (some 35) #[.agg #[.int .i64 ((rd_T47 l0_3 x4_2).f0), .int .i64 ((rd_T47 l0_3 x4_2).f1), .string ((rd_T47 l0_3 x4_2).f2), .int .i64 ((rd_T47 l0_3 x4_2).f3)]] Tryd.func34 ?_; (with_reducible refine (whirligigref22_RightInput.calls k2 ((rd_T47 l0_3 x4_2).f0) ((rd_T47 l0_3 x4_2).f1) ((rd_T47 l0_3 x4_2).f2) ((rd_T47 l0_3 x4_2).f3) false _ A12.out).mono ?_); rintro e w40 ⟨rfl, hb⟩; refine ⟨_, rfl, ?_⟩; replace BK459 := kb gb459 hb; replace BK461 := kp gb461 (.cells #[.int .i64 ((rd_T47 l0_3 x4_2).f0), .int .i64 ((rd_T47 l0_3 x4_2).f1), .string ((rd_T47 l0_3 x4_2).f2), .int .i64 ((rd_T47 l0_3 x4_2).f3)] 47 (0, 0)) hb; replace HB := bst hb; (try clear hb)))
         go_ret
         exact ⟨qR, qB⟩
       ·rw [if_neg c11] at H
        exact absurd H (by simp)
      ·rw [if_neg c10] at H
       have c10b0 := decide_eq_false c10
       clear c10
       obtain rfl := Option.some.inj H
       obtain ⟨hcz41_0, hcz41_1, hcz41_2, hcz41_3, hfz41_0, hfz41_1, hfz41_2, hfz41_3⟩ := cells4 BK459.out
       go_wp2
       go_ret
       exact ⟨qR, qB⟩
end Go.Proofs.YtbngfhlciebeeaaDoor.L
end
section
namespace Go.Proofs.YtbngfhlciebeeaaDoor.Sp
set_option linter.unusedVariables false
set_option linter.unusedSimpArgs false
open Go.RowKit Go.Proofs.YtbngfhlciebeeaaDoor.L Go.Proofs.YtbngfhlciebeeaaDoorW.PrintWords
theorem rd45 {l : List S45} {j : Nat} (h : j < l.length) : rd_T45 l (j : Int) = l[j] := by
  unfold rd_T45
  rw [Int.toNat_natCast, List.getD_eq_getElem?_getD, List.getElem?_eq_getElem h]; rfl
theorem rd43 {l : List S43} {j : Nat} (h : j < l.length) : rd_T43 l (j : Int) = l[j] := by
  unfold rd_T43
  rw [Int.toNat_natCast, List.getD_eq_getElem?_getD, List.getElem?_eq_getElem h]; rfl
theorem rd47 {l : List S47} {j : Nat} (h : j < l.length) : rd_T47 l (j : Int) = l[j] := by
  unfold rd_T47
  rw [Int.toNat_natCast, List.getD_eq_getElem?_getD, List.getElem?_eq_getElem h]; rfl
theorem rd65 {l : List S65} {j : Nat} (h : j < l.length) : rd_T65 l (j : Int) = l[j] := by
  unfold rd_T65
  rw [Int.toNat_natCast, List.getD_eq_getElem?_getD, List.getElem?_eq_getElem h]; rfl
theorem actEvent_ev (s : ByteArray) (hs : s.size ≤ 1000000) : Ev (fun k => act_Event.f k s) (evOk s) := by
  unfold act_Event.f evOk
  refine Ev.bind (Event_ev s hs) ?_
  cases eventT s with
  | true => exact Ev.pos rfl (Ev.bind_some (tMeans_eq s) (Ev.some (by simp)))
  | false => exact Ev.neg (by decide) (Ev.some rfl)
theorem refEvent_ev (s : ByteArray) (hs : s.size ≤ 1000000) : Ev (fun k => whirligigref06_Event.f k s) (evOk s) := by
  unfold whirligigref06_Event.f evOk
  refine Ev.bind (rEvent_ev s hs) ?_
  cases eventT s with
  | true => exact Ev.pos rfl (Ev.bind (rMeans_ev s hs) (Ev.some (by simp)))
  | false => exact Ev.neg (by decide) (Ev.some rfl)
theorem inputRight_ev (x : S45) (hs : x.f2.size ≤ 1000000) : Ev (fun k => tree_Input_Right.f k x.f0 x.f1 x.f2 x.f3) (rightI x) := by
  unfold tree_Input_Right.f rightI
  by_cases h1 : x.f1 = 1
  · refine Ev.pos h1 (Ev.bind (actEvent_ev _ hs) ?_)
    rw [if_pos h1]
    cases evOk x.f2 with
    | true => exact Ev.pos rfl (Ev.some (by simp))
    | false => exact Ev.neg (by decide) (Ev.some rfl)
  · refine Ev.neg h1 ?_
    rw [if_neg h1]
    by_cases h2 : x.f1 = 2
    · refine Ev.pos h2 ?_
      rw [if_pos h2]
      by_cases h3 : x.f2.data.toList = []
      · refine Ev.pos (by rw [ByteArray.toList_eq]; exact h3) ?_
        rw [decide_eq_true h3, Bool.true_and]
        by_cases h4 : x.f3 ≥ 1
        · refine Ev.pos h4 (Ev.some ?_)
          rw [decide_eq_true (show 1 ≤ x.f3 from h4), Bool.true_and]
        · refine Ev.neg h4 (Ev.some ?_)
          rw [decide_eq_false (show ¬ 1 ≤ x.f3 from h4), Bool.false_and]
      · refine Ev.neg (by rw [ByteArray.toList_eq]; exact h3) (Ev.some ?_)
        rw [decide_eq_false h3, Bool.false_and]
    · refine Ev.neg h2 (Ev.some ?_)
      rw [if_neg h2]
theorem refRightInput_ev (x : S45) (hs : x.f2.size ≤ 1000000) : Ev (fun k => whirligigref22_RightInput.f k x.f0 x.f1 x.f2 x.f3) (rightI x) := by
  unfold whirligigref22_RightInput.f rightI
  by_cases h1 : x.f1 = 1
  · refine Ev.pos h1 ?_
    rw [if_pos h1]
    by_cases h0 : x.f3 = 0
    · refine Ev.pos h0 (Ev.bind (refEvent_ev _ hs) (Ev.some ?_))
      rw [h0]; simp
    · refine Ev.neg h0 (Ev.some ?_)
      rw [show (x.f3 == 0) = false from beq_eq_false_iff_ne.2 h0, Bool.and_false]
  · refine Ev.neg h1 ?_
    rw [if_neg h1]
    by_cases h2 : x.f1 = 2
    · refine Ev.pos h2 ?_
      rw [if_pos h2]
      by_cases h3 : x.f2.data.toList = []
      · refine Ev.pos (by rw [ByteArray.toList_eq]; exact h3) ?_
        rw [decide_eq_true h3, Bool.true_and]
        by_cases h4 : x.f3 ≥ 1
        · refine Ev.pos h4 (Ev.some ?_)
          rw [decide_eq_true (show 1 ≤ x.f3 from h4), Bool.true_and]
        · refine Ev.neg h4 (Ev.some ?_)
          rw [decide_eq_false (show ¬ 1 ≤ x.f3 from h4), Bool.false_and]
      · refine Ev.neg (by rw [ByteArray.toList_eq]; exact h3) (Ev.some ?_)
        rw [decide_eq_false h3, Bool.false_and]
    · refine Ev.neg h2 (Ev.some ?_)
      rw [if_neg h2]
def lastAt (xs : List S45) (j : Nat) : Int := if j = 0 then -1 else (rd_T45 xs ((j : Int) - 1)).f0
theorem rising_l (xs : List S45) (hn : xs.length ≤ 1000000) (hs : ∀ x ∈ xs, x.f2.size ≤ 1000000) (a b len : Int) (d : Nat) : ∀ j, j ≤ xs.length → xs.length - j = d → -1 ≤ lastAt xs j →
    Ev (fun k => tree_Branch_rising.l0 k xs (xs.length : Int) (j : Int) a b len xs) (rising len (lastAt xs j) (xs.drop j)) := by
  induction d with
  | zero =>
    intro j hj hd hl
    refine Ev.succ ?_
    simp only [tree_Branch_rising.l0]
    refine Ev.neg (by omega) (Ev.some ?_)
    rw [List.drop_eq_nil_of_le (by omega)]; rfl
  | succ d ih =>
    intro j hj hd hl
    have hjl : j < xs.length := by omega
    have hlast : lastAt xs (j + 1) = xs[j].f0 := by
      unfold lastAt
      rw [if_neg (by omega), show (((j + 1 : Nat) : Int) - 1) = (j : Int) from by omega, rd45 hjl]
    rw [List.drop_eq_getElem_cons hjl]
    simp only [rising]
    refine Ev.succ ?_
    simp only [tree_Branch_rising.l0]
    rw [rd45 hjl, wrap_at (x := (j : Int) - 1) (by omega) (by omega), wrap_at (x := (j : Int) + 1) (by omega) (by omega)]
    refine Ev.pos (by omega) (Ev.pos (by omega) (Ev.pos (by omega) (Ev.bind (inputRight_ev xs[j] (hs _ (List.getElem_mem hjl))) ?_)))
    cases hr : rightI xs[j] with
    | false => exact Ev.neg (by decide) (Ev.some rfl)
    | true =>
      refine Ev.pos rfl ?_
      rw [Bool.true_and]
      by_cases h1 : xs[j].f0 < 0
      · refine Ev.pos h1 (Ev.some ?_)
        rw [decide_eq_false (by omega), Bool.false_and]
      · refine Ev.neg h1 ?_
        by_cases h2 : xs[j].f0 ≥ len
        · refine Ev.pos h2 (Ev.some ?_)
          rw [decide_eq_false (show ¬ xs[j].f0 < len by omega), Bool.false_and, Bool.and_false]
        · refine Ev.neg h2 ?_
          rw [decide_eq_true (show xs[j].f0 < len by omega), Bool.true_and]
          have hnext := ih (j + 1) (by omega) (by omega) (by rw [hlast]; omega)
          rw [hlast] at hnext
          by_cases h3 : 0 < j
          · have hl2 : lastAt xs j = (rd_T45 xs ((j : Int) - 1)).f0 := by unfold lastAt; rw [if_neg (by omega)]
            refine Ev.pos (by omega) (Ev.pos (by omega) (Ev.pos (by omega) ?_))
            rw [← hl2]
            by_cases h4 : xs[j].f0 ≤ lastAt xs j
            · refine Ev.pos h4 (Ev.some ?_)
              rw [decide_eq_false (by omega), Bool.false_and]
            · refine Ev.neg h4 ?_
              rw [decide_eq_true (by omega), Bool.true_and]
              exact hnext
          · refine Ev.neg (by omega) ?_
            have hl2 : lastAt xs j = -1 := by unfold lastAt; rw [if_pos (by omega)]
            rw [hl2, decide_eq_true (by omega), Bool.true_and]
            exact hnext
theorem rising_ev (xs : List S45) (hn : xs.length ≤ 1000000) (hs : ∀ x ∈ xs, x.f2.size ≤ 1000000) (a b len : Int) : Ev (fun k => tree_Branch_rising.f k a b len xs) (rising len (-1) xs) := by
  unfold tree_Branch_rising.f
  exact rising_l xs hn hs a b len _ 0 (by omega) rfl (by unfold lastAt; simp)
def goodB (len : Int) (xs : List S45) : Bool := decide (0 ≤ len) && (decide (len ≤ 512) && rising len (-1) xs)
theorem branch_l (xs : List S45) (hn : xs.length ≤ 1000000) (hs : ∀ x ∈ xs, x.f2.size ≤ 1000000) (a b len : Int) (d : Nat) : ∀ (j : Nat) (last : Int), j ≤ xs.length → xs.length - j = d →
    Ev (fun k => whirligigref22_branch.l0 k last (j : Int) a b len (xs.map i47)) (rising len last (xs.drop j)) := by
  have hm : (xs.map i47).length = xs.length := List.length_map ..
  induction d with
  | zero =>
    intro j last hj hd
    refine Ev.succ ?_
    simp only [whirligigref22_branch.l0]
    refine Ev.neg (by omega) (Ev.some ?_)
    rw [List.drop_eq_nil_of_le (by omega)]; rfl
  | succ d ih =>
    intro j last hj hd
    have hjl : j < xs.length := by omega
    have e1 : rd_T47 (xs.map i47) (j : Int) = i47 xs[j] := by rw [rd47 (by omega), List.getElem_map]
    rw [List.drop_eq_getElem_cons hjl]
    simp only [rising]
    refine Ev.succ ?_
    simp only [whirligigref22_branch.l0]
    rw [e1, wrap_at (by omega) (by omega)]
    refine Ev.pos (by omega) (Ev.pos (by omega) (Ev.bind (refRightInput_ev xs[j] (hs _ (List.getElem_mem hjl))) ?_))
    have hf : (i47 xs[j]).f0 = xs[j].f0 := rfl
    rw [hf]
    cases hr : rightI xs[j] with
    | false => exact Ev.neg (by decide) (Ev.some rfl)
    | true =>
      refine Ev.pos rfl ?_
      rw [Bool.true_and]
      by_cases h1 : xs[j].f0 ≤ last
      · refine Ev.pos h1 (Ev.some ?_)
        rw [decide_eq_false (by omega), Bool.false_and]
      · refine Ev.neg h1 ?_
        rw [decide_eq_true (by omega), Bool.true_and]
        by_cases h2 : xs[j].f0 ≥ len
        · refine Ev.pos h2 (Ev.some ?_)
          rw [decide_eq_false (show ¬ xs[j].f0 < len by omega), Bool.false_and]
        · refine Ev.neg h2 ?_
          rw [decide_eq_true (show xs[j].f0 < len by omega), Bool.true_and]
          exact ih (j + 1) _ (by omega) (by omega)
theorem branch_ev (xs : List S45) (hn : xs.length ≤ 1000000) (hs : ∀ x ∈ xs, x.f2.size ≤ 1000000) (a b len : Int) : Ev (fun k => whirligigref22_branch.f k a b len (xs.map i47)) (goodB len xs) := by
  have hm : (xs.map i47).length = xs.length := List.length_map ..
  have htrue : Ev (fun k => whirligigref22_branch.j0 k true a b len (xs.map i47)) false := by
    refine Ev.succ ?_
    simp only [whirligigref22_branch.j0]
    exact Ev.pos trivial (Ev.some rfl)
  unfold whirligigref22_branch.f goodB
  by_cases h1 : len < 0
  · rw [decide_eq_false (show ¬ 0 ≤ len by omega), Bool.false_and]
    exact Ev.pos h1 htrue
  · rw [decide_eq_true (show 0 ≤ len by omega), Bool.true_and]
    refine Ev.neg h1 ?_
    by_cases h2 : len > 512
    · rw [decide_eq_false (show ¬ len ≤ 512 by omega), Bool.false_and]
      exact Ev.pos h2 htrue
    · rw [decide_eq_true (show len ≤ 512 by omega), Bool.true_and]
      refine Ev.neg h2 ?_
      by_cases h3 : ((xs.map i47).length : Int) > len
      · rw [decide_eq_true h3]
        have hr : rising len (-1) xs = false := by
          cases hr : rising len (-1) xs with
          | false => rfl
          | true =>
            by_cases h0 : -1 < len
            · have := rising_len hr h0
              omega
            · omega
        rw [hr]
        exact htrue
      · rw [decide_eq_false h3]
        refine Ev.succ ?_
        simp only [whirligigref22_branch.j0]
        exact Ev.neg (by decide) (branch_l xs hn hs a b len _ 0 (-1) (by omega) rfl)
theorem ahead_l (at_ : Int) (xs : List S45) (hn : xs.length ≤ 1000000) (d : Nat) : ∀ (j : Nat) (out : List S45), j ≤ xs.length → xs.length - j = d → out.length ≤ j →
    Ev (fun k => tree_Branch_ahead.l0 k at_ out xs (xs.length : Int) (j : Int)) (out ++ ahead at_ (xs.drop j)) := by
  induction d with
  | zero =>
    intro j out hj hd ho
    refine Ev.succ ?_
    simp only [tree_Branch_ahead.l0]
    refine Ev.neg (by omega) (Ev.some ?_)
    rw [List.drop_eq_nil_of_le (by omega)]
    simp [ahead]
  | succ d ih =>
    intro j out hj hd ho
    have hjl : j < xs.length := by omega
    rw [List.drop_eq_getElem_cons hjl]
    refine Ev.succ ?_
    simp only [tree_Branch_ahead.l0]
    rw [rd45 hjl, wrap_at (by omega) (by omega)]
    refine Ev.pos (by omega) (Ev.pos (by omega) (Ev.pos (by omega) ?_))
    by_cases h : xs[j].f0 < at_
    · refine Ev.pos h (Ev.pos (by omega) ?_)
      have h2 := ih (j + 1) (out ++ [xs[j]]) (by omega) (by omega) (by simp; omega)
      have e : ahead at_ (xs[j] :: xs.drop (j + 1)) = xs[j] :: ahead at_ (xs.drop (j + 1)) := by
        unfold ahead
        rw [List.filter_cons_of_pos (by simpa using h)]
      rw [e, show out ++ xs[j] :: ahead at_ (xs.drop (j + 1)) = (out ++ [xs[j]]) ++ ahead at_ (xs.drop (j + 1)) from by simp]
      exact h2
    · refine Ev.neg h ?_
      have h2 := ih (j + 1) out (by omega) (by omega) (by omega)
      have e : ahead at_ (xs[j] :: xs.drop (j + 1)) = ahead at_ (xs.drop (j + 1)) := by
        unfold ahead
        rw [List.filter_cons_of_neg (by simpa using h)]
      rw [e]
      exact h2
theorem ahead_ev (a b c at_ : Int) (xs : List S45) (hn : xs.length ≤ 1000000) : Ev (fun k => tree_Branch_ahead.f k a b c xs at_) (ahead at_ xs) := by
  unfold tree_Branch_ahead.f
  exact ahead_l at_ xs hn _ 0 [] (by omega) rfl (by simp)
end Go.Proofs.YtbngfhlciebeeaaDoor.Sp
end
section
namespace Go.Proofs.YtbngfhlciebeeaaDoor.Sp
set_option linter.unusedVariables false
set_option linter.unusedSimpArgs false
open Go.RowKit Go.Proofs.YtbngfhlciebeeaaDoor.L Go.Proofs.YtbngfhlciebeeaaDoorW.PrintWords
def eqI (x y : S45) : Bool := (x.f0 == y.f0) && ((x.f1 == y.f1) && ((x.f2.toList == y.f2.toList) && (x.f3 == y.f3)))
theorem eqI_iff {x y : S45} : eqI x y = true ↔ x = y := by
  unfold eqI
  rw [ByteArray.toList_eq, ByteArray.toList_eq]
  constructor
  · intro h
    simp only [Bool.and_eq_true, beq_iff_eq] at h
    obtain ⟨h0, h1, h2, h3⟩ := h
    cases x; cases y
    simp only at h0 h1 h2 h3
    subst h0 h1 h3
    rw [ext_bytes h2]
  · rintro rfl
    simp
def eqL : List S45 → List S45 → Bool
  | [], [] => true
  | x :: xs, y :: ys => eqI x y && eqL xs ys
  | _, _ => false
theorem eqL_iff : ∀ {xs ys : List S45}, eqL xs ys = true ↔ xs = ys
  | [], [] => by simp [eqL]
  | [], y :: ys => by simp [eqL]
  | x :: xs, [] => by simp [eqL]
  | x :: xs, y :: ys => by
    simp only [eqL, Bool.and_eq_true, List.cons.injEq]
    rw [eqI_iff, eqL_iff]
theorem eqL_len {xs ys : List S45} (h : xs.length ≠ ys.length) : eqL xs ys = false := by
  cases hx : eqL xs ys with
  | false => rfl
  | true => exact absurd (congrArg List.length (eqL_iff.1 hx)) h
theorem equal_l (xs ys : List S45) (hn : xs.length ≤ 1000000) (hl : xs.length = ys.length) (d : Nat) : ∀ j, j ≤ xs.length → xs.length - j = d →
    Ev (fun k => tree_Input.l0 k xs ys (xs.length : Int) (j : Int)) (eqL (xs.drop j) (ys.drop j)) := by
  induction d with
  | zero =>
    intro j hj hd
    refine Ev.succ ?_
    simp only [tree_Input.l0]
    refine Ev.neg (by omega) (Ev.some ?_)
    rw [List.drop_eq_nil_of_le (by omega), List.drop_eq_nil_of_le (by omega)]; rfl
  | succ d ih =>
    intro j hj hd
    have hj1 : j < xs.length := by omega
    have hj2 : j < ys.length := by omega
    rw [List.drop_eq_getElem_cons hj1, List.drop_eq_getElem_cons hj2]
    simp only [eqL]
    refine Ev.succ ?_
    simp only [tree_Input.l0]
    rw [rd45 hj1, rd45 hj2, wrap_at (by omega) (by omega)]
    refine Ev.pos (by omega) (Ev.pos (by omega) (Ev.pos (by omega) (Ev.pos (by omega) ?_)))
    have hc : (!((xs[j].f0) == (ys[j].f0)) || (!((xs[j].f1) == (ys[j].f1)) || (!(((xs[j].f2).toList) == ((ys[j].f2).toList)) || (!((xs[j].f3) == (ys[j].f3)))))) = !(eqI xs[j] ys[j]) := by
      unfold eqI
      simp only [Bool.not_and]
    rw [hc]
    cases he : eqI xs[j] ys[j] with
    | false => exact Ev.pos rfl (Ev.some rfl)
    | true =>
      refine Ev.neg (by decide) ?_
      rw [Bool.true_and]
      exact ih (j + 1) (by omega) (by omega)
theorem equal_ev (xs ys : List S45) (hn : xs.length ≤ 1000000) : Ev (fun k => tree_Input.f k xs ys) (eqL xs ys) := by
  unfold tree_Input.f
  by_cases h : xs.length = ys.length
  · exact Ev.pos (by omega) (equal_l xs ys hn h _ 0 (by omega) rfl)
  · exact Ev.neg (by omega) (Ev.some (eqL_len h).symm)
def eqJ (x y : S47) : Bool := (x.f0 == y.f0) && ((x.f1 == y.f1) && ((x.f2.toList == y.f2.toList) && (x.f3 == y.f3)))
theorem eqJ_iff {x y : S47} : eqJ x y = true ↔ x = y := by
  unfold eqJ
  rw [ByteArray.toList_eq, ByteArray.toList_eq]
  constructor
  · intro h
    simp only [Bool.and_eq_true, beq_iff_eq] at h
    obtain ⟨h0, h1, h2, h3⟩ := h
    cases x; cases y
    simp only at h0 h1 h2 h3
    subst h0 h1 h3
    rw [ext_bytes h2]
  · rintro rfl
    simp
def cp : List S47 → List S47 → Nat
  | x :: xs, y :: ys => if eqJ x y = true then cp xs ys + 1 else 0
  | _, _ => 0
theorem cp_ge : ∀ (u v : List S47) (a : Nat), a ≤ u.length → a ≤ v.length → (a ≤ cp u v ↔ u.take a = v.take a)
  | u, v, 0, _, _ => by simp
  | [], v, a + 1, h, _ => by simp at h
  | x :: u, [], a + 1, _, h => by simp at h
  | x :: u, y :: v, a + 1, h1, h2 => by
    have ih := cp_ge u v a (by simpa using h1) (by simpa using h2)
    simp only [cp, List.take_succ_cons, List.cons.injEq]
    by_cases he : eqJ x y = true
    · rw [if_pos he, ← ih]
      constructor
      · intro h; exact ⟨eqJ_iff.1 he, by omega⟩
      · rintro ⟨_, h⟩; omega
    · rw [if_neg he]
      constructor
      · intro h; omega
      · rintro ⟨h, _⟩; exact absurd (eqJ_iff.2 h) he
theorem common_l (u v : List S47) (hn : u.length ≤ 1000000) (d : Nat) : ∀ j, j ≤ u.length → u.length - j = d →
    Ev (fun k => whirligigref22_Common.l0 k u v (j : Int)) ((j + cp (u.drop j) (v.drop j) : Nat) : Int) := by
  induction d with
  | zero =>
    intro j hj hd
    refine Ev.succ ?_
    simp only [whirligigref22_Common.l0]
    refine Ev.neg (by omega) (Ev.some ?_)
    rw [List.drop_eq_nil_of_le (by omega)]
    simp [cp]
  | succ d ih =>
    intro j hj hd
    have hj1 : j < u.length := by omega
    refine Ev.succ ?_
    simp only [whirligigref22_Common.l0]
    refine Ev.pos (by omega) ?_
    by_cases h2 : j < v.length
    · refine Ev.pos (by omega) (Ev.pos (by omega) ?_)
      rw [rd47 hj1, rd47 h2, wrap_at (by omega) (by omega), List.drop_eq_getElem_cons hj1, List.drop_eq_getElem_cons h2]
      simp only [cp]
      have hc : (((u[j]).f0) == ((v[j]).f0) && (((u[j]).f1) == ((v[j]).f1) && ((((u[j]).f2).toList) == (((v[j]).f2).toList) && (((u[j]).f3) == ((v[j]).f3))))) = eqJ u[j] v[j] := rfl
      rw [hc]
      by_cases he : eqJ u[j] v[j] = true
      · refine Ev.pos he ?_
        rw [if_pos he, show j + (cp (u.drop (j + 1)) (v.drop (j + 1)) + 1) = j + 1 + cp (u.drop (j + 1)) (v.drop (j + 1)) from by omega]
        exact ih (j + 1) (by omega) (by omega)
      · refine Ev.neg he (Ev.some ?_)
        rw [if_neg he, Nat.add_zero]
    · refine Ev.neg (by omega) (Ev.some ?_)
      rw [List.drop_eq_nil_of_le (show v.length ≤ j by omega)]
      cases u.drop j <;> simp [cp]
theorem gen_nil : ∀ (n m : Nat), gen m n [] = List.replicate n z47
  | 0, m => by simp [gen]
  | n + 1, m => by simp [gen, gen_nil n, List.replicate_succ]
theorem rising_take {len : Int} : ∀ (xs : List S45) (last : Int) (j : Nat), rising len last xs = true → rising len last (xs.take j) = true
  | [], _, j, _ => by simp [rising]
  | x :: xs, last, 0, h => by simp [rising]
  | x :: xs, last, j + 1, h => by
    obtain ⟨h0, h1, h2, h3⟩ := rising_cons.1 h
    rw [List.take_succ_cons]
    exact rising_cons.2 ⟨h0, h1, h2, rising_take xs x.f0 j h3⟩
theorem rising_snoc {len : Int} : ∀ (xs : List S45) (last : Int) (j : Nat) (hj : j < xs.length), rising len last xs = true → ∀ y ∈ xs.take j, y.f0 < xs[j].f0
  | [], _, j, hj, _ => by simp at hj
  | x :: xs, last, 0, hj, h => by simp
  | x :: xs, last, j + 1, hj, h => by
    obtain ⟨h0, h1, h2, h3⟩ := rising_cons.1 h
    intro y hy
    rw [List.take_succ_cons] at hy
    have hj' : j < xs.length := by simpa using hj
    have hx : (x :: xs)[j + 1] = xs[j] := List.getElem_cons_succ ..
    rw [hx]
    rcases List.mem_cons.1 hy with rfl | hy
    · exact (rising_mem h3 _ (List.getElem_mem hj')).2.1
    · exact rising_snoc xs x.f0 j hj' h3 y hy
theorem gen_set {len : Int} {n : Nat} {xs : List S45} {j : Nat} (hj : j < xs.length) (h : rising len (-1) xs = true) (hn : len = (n : Int)) :
    (gen 0 n (xs.take j)).set xs[j].f0.toNat (i47 xs[j]) = gen 0 n (xs.take (j + 1)) := by
  have hm := rising_mem h _ (List.getElem_mem hj)
  have hlt := rising_snoc xs (-1) j hj h
  apply List.ext_getElem?
  intro i
  by_cases hi : i < n
  · rw [gen_at n 0 (xs.take (j + 1)) (-1) (rising_take _ _ _ h) (by omega) i hi, List.take_succ_eq_append_getElem hj, List.find?_append, Nat.zero_add]
    by_cases he : xs[j].f0 = (i : Int)
    · have h0 : (xs.take j).find? (fun x => x.f0 == (i : Int)) = none := by
        rw [List.find?_eq_none]
        intro y hy
        have := hlt y hy
        simp
        omega
      rw [h0, show xs[j].f0.toNat = i from by omega, List.getElem?_set_self (by rw [gen_length]; exact hi)]
      simp [he]
    · rw [List.getElem?_set_ne (by omega), gen_at n 0 (xs.take j) (-1) (rising_take _ _ _ h) (by omega) i hi, Nat.zero_add]
      have h1 : List.find? (fun x : S45 => x.f0 == (i : Int)) [xs[j]] = none := by simp [he]
      rw [h1, Option.or_none]
  · rw [List.getElem?_eq_none (by rw [List.length_set, gen_length]; omega), List.getElem?_eq_none (by rw [gen_length]; omega)]
theorem moves_l (xs : List S45) (hn : xs.length ≤ 1000000) (a b len : Int) (n : Nat) (hlen : len = (n : Int)) (h : rising len (-1) xs = true) (d : Nat) : ∀ j, j ≤ xs.length → xs.length - j = d →
    Ev (fun k => whirligigref22_Moves.l0 k (gen 0 n (xs.take j)) (j : Int) a b len (xs.map i47)) (gen 0 n xs) := by
  have hm : (xs.map i47).length = xs.length := List.length_map ..
  induction d with
  | zero =>
    intro j hj hd
    refine Ev.succ ?_
    simp only [whirligigref22_Moves.l0]
    refine Ev.neg (by omega) (Ev.some ?_)
    rw [List.take_of_length_le (by omega)]
  | succ d ih =>
    intro j hj hd
    have hjl : j < xs.length := by omega
    have e1 : rd_T47 (xs.map i47) (j : Int) = i47 xs[j] := by rw [rd47 (by omega), List.getElem_map]
    have hr := rising_mem h _ (List.getElem_mem hjl)
    have hf : (i47 xs[j]).f0 = xs[j].f0 := rfl
    have hg := gen_length n 0 (xs.take j)
    refine Ev.succ ?_
    simp only [whirligigref22_Moves.l0]
    rw [e1, wrap_at (by omega) (by omega)]
    refine Ev.pos (by omega) (Ev.pos (by omega) (Ev.pos (by rw [hf]; omega) (Ev.pos (by rw [hf]; omega) ?_)))
    have h2 := ih (j + 1) (by omega) (by omega)
    rw [← gen_set hjl h hlen] at h2
    exact h2
theorem moves_ev (xs : List S45) (hn : xs.length ≤ 1000000) (a b len : Int) (h : goodB len xs = true) : Ev (fun k => whirligigref22_Moves.f k a b len (xs.map i47)) (gen 0 len.toNat xs) := by
  unfold goodB at h
  simp only [Bool.and_eq_true, decide_eq_true_eq] at h
  obtain ⟨h0, h1, h2⟩ := h
  unfold whirligigref22_Moves.f
  refine Ev.pos h0 (Ev.pos (by omega) ?_)
  rw [← gen_nil len.toNat 0]
  exact moves_l xs hn a b len len.toNat (by omega) h2 _ 0 (by omega) rfl
theorem common_ev (xs ys : List S45) (hx : xs.length ≤ 1000000) (hy : ys.length ≤ 1000000) (a b len a' b' len' : Int) (h : goodB len xs = true) (h' : goodB len' ys = true) :
    Ev (fun k => whirligigref22_Common.f k a b len (xs.map i47) a' b' len' (ys.map i47)) ((cp (gen 0 len.toNat xs) (gen 0 len'.toNat ys) : Nat) : Int) := by
  have hg := h
  unfold goodB at hg
  simp only [Bool.and_eq_true, decide_eq_true_eq] at hg
  unfold whirligigref22_Common.f
  refine Ev.bind (moves_ev xs hx a b len h) (Ev.bind (moves_ev ys hy a' b' len' h') ?_)
  have h2 := common_l (gen 0 len.toNat xs) (gen 0 len'.toNat ys) (by rw [gen_length]; omega) _ 0 (by omega) rfl
  simpa using h2
end Go.Proofs.YtbngfhlciebeeaaDoor.Sp
end
section
namespace Go.Proofs.YtbngfhlciebeeaaDoor.L
set_option linter.unusedVariables false
open Go.RowKit Go.Proofs.YtbngfhlciebeeaaDoorW.PrintWords Go.Proofs.YtbngfhlciebeeaaDoorW.PrintLast Go.Proofs.YtbngfhlciebeeaaDoorW.PrintMore
theorem more_ {P : Program} {md : Region.Mode} {ops : Array Oper} {Q : Exit → Act → World → Prop} {S S2 : World → Prop} (hsub : ∀ w, S2 w → S w) : ∀ (n : Nat) (l : Array Bool) (a : Act) (w : World), S2 w →
    wpAnyLast P md ops Q S2 [] n l a w → wpAnyLast P md ops Q S [] n l a w
  | 0, l, a, w, _, h => h
  | n + 1, l, a, w, hS, h => ⟨h.1, fun i hi => wpOp_mono (fun a' w' h3 => ⟨fun _ _ => hsub _ (h3.1 (by simp) hS), more_ hsub n _ a' w' (h3.1 (by simp) hS) h3.2⟩) (h.2 i hi)⟩
theorem eq_nil_isEmpty (l : List UInt8) : (l == ([] : List UInt8)) = l.isEmpty := by cases l <;> rfl
end Go.Proofs.YtbngfhlciebeeaaDoor.L
end
