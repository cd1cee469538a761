/- Printed and hand-written steps towards the row (TreeRight), those that it reaches. -/
import Derived.Test.YtbngfhlciebeeaaDoorTreeRightLx0
import Derived.Test.YtbngfhlciebeeaaDoorTreeRightG7
import Derived.Test.YtbngfhlciebeeaaDoorTreeRightLxf32
namespace Go.Proofs.YtbngfhlciebeeaaDoor.L
open Go.RowKit Go.Proofs.YtbngfhlciebeeaaDoorW.PrintWords Go.Proofs.YtbngfhlciebeeaaDoorW.PrintLast Go.Proofs.YtbngfhlciebeeaaDoorW.PrintMore
attribute [local go_sem] max2_int min2_int max_two min_two max_three min_three max_four min_four   -- for this text's walks alone
set_option linter.unusedVariables false
set_option linter.unusedSimpArgs false
mutual
def whirligigref22_branch.j0 : Nat → Bool → Int → Int → Int → List (S47) → Option (Bool)
 | 0, _, _, _, _, _ => none
 | k + 1, x21, x460000, x460001, x460002, x460003 => if x21 = true then (some false) else (whirligigref22_branch.l0 k (-1) 0 x460000 x460001 x460002 x460003)
def whirligigref22_branch.l0 : Nat → Int → Int → Int → Int → Int → List (S47) → Option (Bool)
 | 0, _, _, _, _, _, _ => none
 | k + 1, x3, x4, x460000, x460001, x460002, x460003 => if x4 < (x460003.length : Int) then (if 0 ≤ x4 then ((whirligigref22_RightInput.f k ((rd_T47 x460003 x4).f0) ((rd_T47 x460003 x4).f1) ((rd_T47 x460003 x4).f2) ((rd_T47 x460003 x4).f3)).bind fun t462 => (if t462 = true then (if ((rd_T47 x460003 x4).f0) ≤ x3 then (some false) else (if ((rd_T47 x460003 x4).f0) ≥ x460002 then (some false) else (whirligigref22_branch.l0 k ((rd_T47 x460003 x4).f0) (wrap64 (x4 + 1)) x460000 x460001 x460002 x460003))) else (some false))) else (none)) else (some true)
end
def whirligigref22_branch.f (k : Nat) (a0_0 : Int) (a0_1 : Int) (a0_2 : Int) (l0_3 : List (S47)) : Option (Bool) := if a0_2 < 0 then (whirligigref22_branch.j0 k true a0_0 a0_1 a0_2 l0_3) else (if a0_2 > 512 then (whirligigref22_branch.j0 k true a0_0 a0_1 a0_2 l0_3) else (whirligigref22_branch.j0 k (decide ((l0_3.length : Int) > a0_2)) a0_0 a0_1 a0_2 l0_3))
theorem whirligigref22_branch.mono_l : ∀ k, (∀ y0 y1 y2 y3 y4, LeO (whirligigref22_branch.j0 k y0 y1 y2 y3 y4) (whirligigref22_branch.j0 (k + 1) y0 y1 y2 y3 y4)) ∧ (∀ y0 y1 y2 y3 y4 y5, LeO (whirligigref22_branch.l0 k y0 y1 y2 y3 y4 y5) (whirligigref22_branch.l0 (k + 1) y0 y1 y2 y3 y4 y5))
 | 0 => ⟨fun _ _ _ _ _ r h => by simp [whirligigref22_branch.j0] at h, fun _ _ _ _ _ _ r h => by simp [whirligigref22_branch.l0] at h⟩
 | k + 1 => by
  obtain ⟨ih0, ih1⟩ := whirligigref22_branch.mono_l k
  refine ⟨?_, ?_⟩
  ·intro y0 y1 y2 y3 y4
   unfold whirligigref22_branch.j0
   repeat' first
   | (with_reducible exact ih0 _ _ _ _ _)
   | (with_reducible exact ih1 _ _ _ _ _ _)
   | (with_reducible exact whirligigref22_RightInput.mono _ _ _ _ _)
   | (with_reducible exact LeO.refl _)
   | (with_reducible exact LeO.none _)
   | (with_reducible refine LeO.ite ?_ ?_)
   | (with_reducible refine LeO.bind ?_ (fun _ => ?_))
   | exact ih0 _ _ _ _ _
   | exact ih1 _ _ _ _ _ _
   | exact whirligigref22_RightInput.mono _ _ _ _ _
   | exact LeO.none _
   | refine LeO.ite ?_ ?_
   | refine LeO.bind ?_ (fun _ => ?_)
  ·intro y0 y1 y2 y3 y4 y5
   unfold whirligigref22_branch.l0
   repeat' first
   | (with_reducible exact ih0 _ _ _ _ _)
   | (with_reducible exact ih1 _ _ _ _ _ _)
   | (with_reducible exact whirligigref22_RightInput.mono _ _ _ _ _)
   | (with_reducible exact LeO.refl _)
   | (with_reducible exact LeO.none _)
   | (with_reducible refine LeO.ite ?_ ?_)
   | (with_reducible refine LeO.bind ?_ (fun _ => ?_))
   | exact ih0 _ _ _ _ _
   | exact ih1 _ _ _ _ _ _
   | exact whirligigref22_RightInput.mono _ _ _ _ _
   | exact LeO.none _
   | refine LeO.ite ?_ ?_
   | refine LeO.bind ?_ (fun _ => ?_)
theorem whirligigref22_branch.mono : ∀ a0 a1 a2 a3 k, LeO (whirligigref22_branch.f k a0 a1 a2 a3) (whirligigref22_branch.f (k + 1) a0 a1 a2 a3) := by
 intro a0 a1 a2 a3 k
 obtain ⟨ih0, ih1⟩ := whirligigref22_branch.mono_l k
 unfold whirligigref22_branch.f
 repeat' first
   | (with_reducible exact ih0 _ _ _ _ _)
   | (with_reducible exact ih1 _ _ _ _ _ _)
   | (with_reducible exact whirligigref22_RightInput.mono _ _ _ _ _)
   | (with_reducible exact LeO.refl _)
   | (with_reducible exact LeO.none _)
   | (with_reducible refine LeO.ite ?_ ?_)
   | (with_reducible refine LeO.bind ?_ (fun _ => ?_))
   | exact ih0 _ _ _ _ _
   | exact ih1 _ _ _ _ _ _
   | exact whirligigref22_RightInput.mono _ _ _ _ _
   | exact LeO.none _
   | refine LeO.ite ?_ ?_
   | refine LeO.bind ?_ (fun _ => ?_)
set_option maxHeartbeats 8000000 in
set_option maxRecDepth 100000 in
theorem whirligigref22_branch.calls (k : Nat) (a0_0 : Int) (a0_1 : Int) (a0_2 : Int) (A0_3 : Option Addr) (c0_3 : Nat) (l0_3 : List (S47)) (r : Bool) (w : World) (hr0_3 : Kd.C k47 w A0_3 l0_3.length l0_3) (hc0_3 : l0_3.length ≤ c0_3) (h : whirligigref22_branch.f k a0_0 a0_1 a0_2 l0_3 = some r) :
  Calls Tryd.prog 79 #[.agg #[.int .i64 a0_0, .int .i64 a0_1, .int .i64 a0_2, .slice A0_3 l0_3.length c0_3]] w fun e w' => e = .returned (.bool r) ∧ Below w.heap.size w w' := by
 have hu65 := Tryd.underlying65
 have hu47 := Tryd.underlying47
 have HR0_3 := Aside0.mk hr0_3
 have HC0_3 := Aside0.mk hc0_3
 clear hr0_3 hc0_3
 have HB := Aside0.mk (Below.refl w.heap.size w)
 have H : (if a0_2 < 0 then (whirligigref22_branch.j0 k true a0_0 a0_1 a0_2 l0_3) else (if a0_2 > 512 then (whirligigref22_branch.j0 k true a0_0 a0_1 a0_2 l0_3) else (whirligigref22_branch.j0 k (decide ((l0_3.length : Int) > a0_2)) a0_0 a0_1 a0_2 l0_3))) = some r := h
 clear h
 have HC2 := Aside0.mk H
 clear H
 go_enter Tryd.func79, Tryd.ntmps79
 go_upto_region 1 with (first | ((with_reducible refine gate_dst (N := 1) rfl ?_); (try (refine gate_guard (by rfl) ?_; dsimp only)); refine box_event ?hg (N := 1) ?hd (cs := #[.int .i64 a0_0, .int .i64 a0_1, .int .i64 a0_2, .slice A0_3 l0_3.length c0_3]) (t := 65) ?hr ?_; (case hd => rfl); (case hg => rfl); (case hr => first | (go_simp; done) | (go_simp; rfl)); intro gb459 hg w3 hbox hb; have BK459 := Aside0.mk (hbox); have GW459 := geS hg; have GE459 := geS hg; replace HB := bst hb; clear hb hbox hg))
 (try simp only [Act.put, List.setIfInBounds_toArray, List.set_cons_zero, List.set_cons_succ])
 go_cut [21] (fun v21 wc => ∃ (kq : Nat) (x21_1 : Bool), v21 = .bool x21_1 ∧ Aside0 (whirligigref22_branch.j0 kq x21_1 a0_0 a0_1 a0_2 l0_3 = some r) ∧ Aside0 (kq ≤ k) ∧ Aside0 (wc.heap[gb459]? = some (.cells #[.int .i64 a0_0, .int .i64 a0_1, .int .i64 a0_2, (.slice A0_3 l0_3.length c0_3)] 65 (0, 0))) ∧ Aside0 (Below w.heap.size w wc))
 case first =>
  have H := HC2.out
  clear HC2
  by_cases c4 : a0_2 < 0
  ·rw [if_pos c4] at H
   have c4b0 := decide_eq_true c4
   clear c4
   (first | rw [c4b0] | (simp only [i64_w, i32_w]; rw [c4b0]) | skip)
   have H' := Aside0.mk H
   clear H
   obtain ⟨hcz5_0, hcz5_1, hcz5_2, hcz5_3, hfz5_0, hfz5_1, hfz5_2, hfz5_3⟩ := cells4 BK459.out
   go_wp2
   go_meet
   case rel => exact ⟨_, (true), (by first | rfl | (simp; done) | (simp [*]; done)), H', ⟨by first | omega | exact Nat.le_refl _⟩, ⟨qK⟩, ⟨qB⟩⟩
  ·rw [if_neg c4] at H
   have c4b0 := decide_eq_false c4
   clear c4
   (first | rw [c4b0] | (simp only [i64_w, i32_w]; rw [c4b0]) | skip)
   by_cases c6 : a0_2 > 512
   ·rw [if_pos c6] at H
    have c6b0 := decide_eq_true c6
    clear c6
    have H' := Aside0.mk H
    clear H
    obtain ⟨hcz7_0, hcz7_1, hcz7_2, hcz7_3, hfz7_0, hfz7_1, hfz7_2, hfz7_3⟩ := cells4 BK459.out
    go_wp2
    go_meet
    case rel => exact ⟨_, (true), (by first | rfl | (simp; done) | (simp [*]; done)), H', ⟨by first | omega | exact Nat.le_refl _⟩, ⟨qK⟩, ⟨qB⟩⟩
   ·rw [if_neg c6] at H
    have c6b0 := decide_eq_false c6
    clear c6
    have H' := Aside0.mk H
    clear H
    obtain ⟨hcz8_0, hcz8_1, hcz8_2, hcz8_3, hfz8_0, hfz8_1, hfz8_2, hfz8_3⟩ := cells4 BK459.out
    go_wp2
    go_meet
    case rel => exact ⟨_, (decide ((l0_3.length : Int) > a0_2)), (by first | rfl | (simp; done) | (simp [*]; done)), H', ⟨by first | omega | exact Nat.le_refl _⟩, ⟨qK⟩, ⟨qB⟩⟩
 case rest =>
  clear HC2
  try clear p2
  try clear c4
  try clear c4b0
  try clear c6
  try clear c6b0
  try clear c7
  try clear hcz5_0 hcz5_1 hcz5_2 hcz5_3 hfz5_0 hfz5_1 hfz5_2 hfz5_3
  try clear hcz7_0 hcz7_1 hcz7_2 hcz7_3 hfz7_0 hfz7_1 hfz7_2 hfz7_3
  try clear hcz8_0 hcz8_1 hcz8_2 hcz8_3 hfz8_0 hfz8_1 hfz8_2 hfz8_3
  obtain ⟨kq, x21_1, rfl, HA, HJ1, BK459, HB⟩ := hcut
  cases kq with
  | zero => exact absurd HA.out (by simp [whirligigref22_branch.j0])
  | succ kj1 =>
   have H := HA.out
   clear HA
   simp only [whirligigref22_branch.j0] at H
   by_cases c9 : x21_1 = true
   ·subst c9
    rw [if_pos rfl] at H
    obtain rfl := Option.some.inj H
    go_wp2
    go_ret
    exact ⟨qR, qB⟩
   ·replace c9 := Bool.eq_false_iff.mpr c9
    subst c9
    rw [if_neg (show ¬ (false = true) by decide)] at H
    have H' := Aside0.mk H
    clear H
    go_wp2
    go_loopg [3, 4] kj1 (fun kq v3 v4 w' => ∃ (x3_2 : Int) (x4_2 : Int), v3 = .int .i64 x3_2 ∧ v4 = .int .i64 x4_2 ∧ Aside0 (whirligigref22_branch.l0 kq x3_2 x4_2 a0_0 a0_1 a0_2 l0_3 = some r) ∧ Aside0 (kq ≤ kj1) ∧ Aside0 (w'.heap[gb459]? = some (.cells #[.int .i64 a0_0, .int .i64 a0_1, .int .i64 a0_2, (.slice A0_3 l0_3.length c0_3)] 65 (0, 0))) ∧ Aside0 (Below w.heap.size w w'))
    case atStart => exact ⟨((-1)), (0), (by first | rfl | (simp; done) | (simp [*]; done)), (by first | rfl | (simp; done) | (simp [*]; done)), H', ⟨Nat.le_refl _⟩, ⟨qK⟩, ⟨qB⟩⟩
    case round =>
     clear H'
     try clear p2 p2
     try clear c4
     try clear c4b0
     try clear c6
     try clear c6b0
     try clear c7
     try clear c9
     try clear hcz5_0 hcz5_1 hcz5_2 hcz5_3 hfz5_0 hfz5_1 hfz5_2 hfz5_3
     try clear hcz7_0 hcz7_1 hcz7_2 hcz7_3 hfz7_0 hfz7_1 hfz7_2 hfz7_3
     try clear hcz8_0 hcz8_1 hcz8_2 hcz8_3 hfz8_0 hfz8_1 hfz8_2 hfz8_3
     obtain ⟨x3_2, x4_2, rfl, rfl, HA, HK2, BK459, HB⟩ := hrel
     cases gk with
     | zero => exact absurd HA.out (by simp [whirligigref22_branch.l0])
     | succ k2 =>
      have H := HA.out
      clear HA
      simp only [whirligigref22_branch.l0] at H
      by_cases c10 : x4_2 < (l0_3.length : Int)
      ·rw [if_pos c10] at H
       have c10b0 := decide_eq_true c10
       clear c10
       by_cases c11 : 0 ≤ x4_2
       ·rw [if_pos c11] at H
        have c11b0 := decide_eq_true c11
        clear c11
        replace H := Option.bind_eq_some_iff.mp H
        obtain ⟨t462, A120, H⟩ := H
        (try dsimp -simprocs only at H)
        have A12 := Aside0.mk A120
        clear A120
        by_cases c13 : t462 = true
        ·subst c13
         rw [if_pos rfl] at H
         by_cases c14 : ((rd_T47 l0_3 x4_2).f0) ≤ x3_2
         ·rw [if_pos c14] at H
          have c14b0 := decide_eq_true c14
          clear c14
          obtain rfl := Option.some.inj H
          obtain ⟨hcz15_0, hcz15_1, hcz15_2, hcz15_3, hfz15_0, hfz15_1, hfz15_2, hfz15_3⟩ := cells4 BK459.out
          have p460 : 0 ≤ (x4_2 : Int) := qD
          have q460 : x4_2 < (l0_3.length : Int) := qD
          obtain ⟨ad460, e460, hx460_0, hx460_1, hx460_2, hx460_3⟩ := at_T47 (Kd.C_below HR0_3.out HB.out) x4_2 p460 q460
          cases e460
          replace p460 := eq_true p460
          replace q460 := eq_true q460
          go_wp2_with (first | ((with_reducible refine gate_dst (N := 5) rfl ?_); (try (refine gate_guard (by rfl) ?_; dsimp only)); refine box_event ?hg (N := 5) ?hd (cs := #[.int .i64 0, .int .i64 0, .string (⟨#[]⟩ : ByteArray), .int .i64 0]) (t := 47) ?hr ?_; (case hd => rfl); (case hg => rfl); (case hr => first | (go_simp; done) | (go_simp; rfl)); intro gb461 hg w16 hbox hb; have BK461 := Aside0.mk (hbox); have GW461 := geS hg; have GE461 := geS hg; have NB459_461 := neS gb459 hg; have NB461_459 := neT gb459 hg; replace BK459 := kb gb459 hb; replace HB := bst hb; clear hb hbox hg; have hnb17 := NB461_459.out; have hnc17 := NB459_461.out; obtain ⟨hcz18_0, hcz18_1, hcz18_2, hcz18_3, hfz18_0, hfz18_1, hfz18_2, hfz18_3⟩ := cells4 BK461.out) | (refine gl (some 35) #[.agg #[.int .i64 ((rd_T47 l0_3 x4_2).f0), .int .i64 ((rd_T47 l0_3 x4_2).f1), .string ((rd_T47 l0_3 x4_2).f2), .int .i64 ((rd_T47 l0_3 x4_2).f3)]] Tryd.func34 ?_; (with_reducible refine (whirligigref22_RightInput.calls k2 ((rd_T47 l0_3 x4_2).f0) ((rd_T47 l0_3 x4_2).f1) ((rd_T47 l0_3 x4_2).f2) ((rd_T47 l0_3 x4_2).f3) true _ A12.out).mono ?_); rintro e w19 ⟨rfl, hb⟩; refine ⟨_, rfl, ?_⟩; replace BK459 := kb gb459 hb; replace BK461 := kp gb461 (.cells #[.int .i64 ((rd_T47 l0_3 x4_2).f0), .int .i64 ((rd_T47 l0_3 x4_2).f1), .string ((rd_T47 l0_3 x4_2).f2), .int .i64 ((rd_T47 l0_3 x4_2).f3)] 47 (0, 0)) hb; replace HB := bst hb; (try clear hb); obtain ⟨hcz20_0, hcz20_1, hcz20_2, hcz20_3, hfz20_0, hfz20_1, hfz20_2, hfz20_3⟩ := cells4 BK461.out))
          go_ret
          exact ⟨qR, qB⟩
         ·rw [if_neg c14] at H
          have c14b0 := decide_eq_false c14
          clear c14
          by_cases c21 : ((rd_T47 l0_3 x4_2).f0) ≥ a0_2
          ·rw [if_pos c21] at H
           have c21b0 := decide_eq_true c21
           clear c21
           obtain rfl := Option.some.inj H
           obtain ⟨hcz22_0, hcz22_1, hcz22_2, hcz22_3, hfz22_0, hfz22_1, hfz22_2, hfz22_3⟩ := cells4 BK459.out
           have p460 : 0 ≤ (x4_2 : Int) := qD
           have q460 : x4_2 < (l0_3.length : Int) := qD
           obtain ⟨ad460, e460, hx460_0, hx460_1, hx460_2, hx460_3⟩ := at_T47 (Kd.C_below HR0_3.out HB.out) x4_2 p460 q460
           cases e460
           replace p460 := eq_true p460
           replace q460 := eq_true q460
           go_wp2_with (first | ((with_reducible refine gate_dst (N := 5) rfl ?_); (try (refine gate_guard (by rfl) ?_; dsimp only)); refine box_event ?hg (N := 5) ?hd (cs := #[.int .i64 0, .int .i64 0, .string (⟨#[]⟩ : ByteArray), .int .i64 0]) (t := 47) ?hr ?_; (case hd => rfl); (case hg => rfl); (case hr => first | (go_simp; done) | (go_simp; rfl)); intro gb461 hg w23 hbox hb; have BK461 := Aside0.mk (hbox); have GW461 := geS hg; have GE461 := geS hg; have NB459_461 := neS gb459 hg; have NB461_459 := neT gb459 hg; replace BK459 := kb gb459 hb; replace HB := bst hb; clear hb hbox hg; have hnb24 := NB461_459.out; have hnc24 := NB459_461.out; obtain ⟨hcz25_0, hcz25_1, hcz25_2, hcz25_3, hfz25_0, hfz25_1, hfz25_2, hfz25_3⟩ := cells4 BK461.out) | (refine gl (some 35) #[.agg #[.int .i64 ((rd_T47 l0_3 x4_2).f0), .int .i64 ((rd_T47 l0_3 x4_2).f1), .string ((rd_T47 l0_3 x4_2).f2), .int .i64 ((rd_T47 l0_3 x4_2).f3)]] Tryd.func34 ?_; (with_reducible refine (whirligigref22_RightInput.calls k2 ((rd_T47 l0_3 x4_2).f0) ((rd_T47 l0_3 x4_2).f1) ((rd_T47 l0_3 x4_2).f2) ((rd_T47 l0_3 x4_2).f3) true _ A12.out).mono ?_); rintro e w26 ⟨rfl, hb⟩; refine ⟨_, rfl, ?_⟩; replace BK459 := kb gb459 hb; replace BK461 := kp gb461 (.cells #[.int .i64 ((rd_T47 l0_3 x4_2).f0), .int .i64 ((rd_T47 l0_3 x4_2).f1), .string ((rd_T47 l0_3 x4_2).f2), .int .i64 ((rd_T47 l0_3 x4_2).f3)] 47 (0, 0)) hb; replace HB := bst hb; (try clear hb); obtain ⟨hcz27_0, hcz27_1, hcz27_2, hcz27_3, hfz27_0, hfz27_1, hfz27_2, hfz27_3⟩ := cells4 BK461.out; obtain ⟨hcz28_0, hcz28_1, hcz28_2, hcz28_3, hfz28_0, hfz28_1, hfz28_2, hfz28_3⟩ := cells4 BK459.out))
           go_ret
           exact ⟨qR, qB⟩
          ·rw [if_neg c21] at H
           have c21b0 := decide_eq_false c21
           clear c21
           have H' := Aside0.mk H
           clear H
           obtain ⟨hcz29_0, hcz29_1, hcz29_2, hcz29_3, hfz29_0, hfz29_1, hfz29_2, hfz29_3⟩ := cells4 BK459.out
           have p460 : 0 ≤ (x4_2 : Int) := qD
           have q460 : x4_2 < (l0_3.length : Int) := qD
           obtain ⟨ad460, e460, hx460_0, hx460_1, hx460_2, hx460_3⟩ := at_T47 (Kd.C_below HR0_3.out HB.out) x4_2 p460 q460
           cases e460
           replace p460 := eq_true p460
           replace q460 := eq_true q460
           go_wp2_with (first | ((with_reducible refine gate_dst (N := 5) rfl ?_); (try (refine gate_guard (by rfl) ?_; dsimp only)); refine box_event ?hg (N := 5) ?hd (cs := #[.int .i64 0, .int .i64 0, .string (⟨#[]⟩ : ByteArray), .int .i64 0]) (t := 47) ?hr ?_; (case hd => rfl); (case hg => rfl); (case hr => first | (go_simp; done) | (go_simp; rfl)); intro gb461 hg w30 hbox hb; have BK461 := Aside0.mk (hbox); have GW461 := geS hg; have GE461 := geS hg; have NB459_461 := neS gb459 hg; have NB461_459 := neT gb459 hg; replace BK459 := kb gb459 hb; replace HB := bst hb; clear hb hbox hg; have hnb31 := NB461_459.out; have hnc31 := NB459_461.out; obtain ⟨hcz32_0, hcz32_1, hcz32_2, hcz32_3, hfz32_0, hfz32_1, hfz32_2, hfz32_3⟩ := cells4 BK461.out) | (refine gl (some 35) #[.agg #[.int .i64 ((rd_T47 l0_3 x4_2).f0), .int .i64 ((rd_T47 l0_3 x4_2).f1), .string ((rd_T47 l0_3 x4_2).f2), .int .i64 ((rd_T47 l0_3 x4_2).f3)]] Tryd.func34 ?_; (with_reducible refine (whirligigref22_RightInput.calls k2 ((rd_T47 l0_3 x4_2).f0) ((rd_T47 l0_3 x4_2).f1) ((rd_T47 l0_3 x4_2).f2) ((rd_T47 l0_3 x4_2).f3) true _ A12.out).mono ?_); rintro e w33 ⟨rfl, hb⟩; refine ⟨_, rfl, ?_⟩; replace BK459 := kb gb459 hb; replace BK461 := kp gb461 (.cells #[.int .i64 ((rd_T47 l0_3 x4_2).f0), .int .i64 ((rd_T47 l0_3 x4_2).f1), .string ((rd_T47 l0_3 x4_2).f2), .int .i64 ((rd_T47 l0_3 x4_2).f3)] 47 (0, 0)) hb; replace HB := bst hb; (try clear hb); obtain ⟨hcz34_0, hcz34_1, hcz34_2, hcz34_3, hfz34_0, hfz34_1, hfz34_2, hfz34_3⟩ := cells4 BK461.out; obtain ⟨hcz35_0, hcz35_1, hcz35_2, hcz35_3, hfz35_0, hfz35_1, hfz35_2, hfz35_3⟩ := cells4 BK459.out))
           go_roundg k2
           case measure => have := HJ1.out; have := HK2.out; omega
           case rel => exact ⟨((rd_T47 l0_3 x4_2).f0), (wrap64 (x4_2 + 1)), (by first | rfl | (simp; done) | (simp [*]; done)), (by first | rfl | (simp; done) | (simp [*]; done)), H', ⟨by have := HJ1.out; have := HK2.out; omega⟩, ⟨qK⟩, ⟨qB⟩⟩
        ·replace c13 := Bool.eq_false_iff.mpr c13
         subst c13
         rw [if_neg (show ¬ (false = true) by decide)] at H
         obtain rfl := Option.some.inj H
         obtain ⟨hcz36_0, hcz36_1, hcz36_2, hcz36_3, hfz36_0, hfz36_1, hfz36_2, hfz36_3⟩ := cells4 BK459.out
         have p460 : 0 ≤ (x4_2 : Int) := qD
         have q460 : x4_2 < (l0_3.length : Int) := qD
         obtain ⟨ad460, e460, hx460_0, hx460_1, hx460_2, hx460_3⟩ := at_T47 (Kd.C_below HR0_3.out HB.out) x4_2 p460 q460
         cases e460
         replace p460 := eq_true p460
         replace q460 := eq_true q460
         go_wp2_with (first | ((with_reducible refine gate_dst (N := 5) rfl ?_); (try (refine gate_guard (by rfl) ?_; dsimp only)); refine box_event ?hg (N := 5) ?hd (cs := #[.int .i64 0, .int .i64 0, .string (⟨#[]⟩ : ByteArray), .int .i64 0]) (t := 47) ?hr ?_; (case hd => rfl); (case hg => rfl); (case hr => first | (go_simp; done) | (go_simp; rfl)); intro gb461 hg w37 hbox hb; have BK461 := Aside0.mk (hbox); have GW461 := geS hg; have GE461 := geS hg; have NB459_461 := neS gb459 hg; have NB461_459 := neT gb459 hg; replace BK459 := kb gb459 hb; replace HB := bst hb; clear hb hbox hg; have hnb38 := NB461_459.out; have hnc38 := NB459_461.out; obtain ⟨hcz39_0, hcz39_1, hcz39_2, hcz39_3, hfz39_0, hfz39_1, hfz39_2, hfz39_3⟩ := cells4 BK461.out) | (refine gl (some 35) #[.agg #[.int .i64 ((rd_T47 l0_3 x4_2).f0), .int .i64 ((rd_T47 l0_3 x4_2).f1), .string ((rd_T47 l0_3 x4_2).f2), .int .i64 ((rd_T47 l0_3 x4_2).f3)]] Tryd.func34 ?_; (with_reducible refine (whirligigref22_RightInput.calls k2 ((rd_T47 l0_3 x4_2).f0) ((rd_T47 l0_3 x4_2).f1) ((rd_T47 l0_3 x4_2).f2) ((rd_T47 l0_3 x4_2).f3) false _ A12.out).mono ?_); rintro e w40 ⟨rfl, hb⟩; refine ⟨_, rfl, ?_⟩; replace BK459 := kb gb459 hb; replace BK461 := kp gb461 (.cells #[.int .i64 ((rd_T47 l0_3 x4_2).f0), .int .i64 ((rd_T47 l0_3 x4_2).f1), .string ((rd_T47 l0_3 x4_2).f2), .int .i64 ((rd_T47 l0_3 x4_2).f3)] 47 (0, 0)) hb; replace HB := bst hb; (try clear hb)))
         go_ret
         exact ⟨qR, qB⟩
       ·rw [if_neg c11] at H
        exact absurd H (by simp)
      ·rw [if_neg c10] at H
       have c10b0 := decide_eq_false c10
       clear c10
       obtain rfl := Option.some.inj H
       obtain ⟨hcz41_0, hcz41_1, hcz41_2, hcz41_3, hfz41_0, hfz41_1, hfz41_2, hfz41_3⟩ := cells4 BK459.out
       go_wp2
       go_ret
       exact ⟨qR, qB⟩
end Go.Proofs.YtbngfhlciebeeaaDoor.L
