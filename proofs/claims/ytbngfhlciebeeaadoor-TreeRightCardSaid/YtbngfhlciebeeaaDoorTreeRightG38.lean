/- Printed and hand-written steps towards the row (TreeRight), those that it reaches. -/
import Derived.Test.YtbngfhlciebeeaaDoorTreeRightLx0
import Derived.Test.YtbngfhlciebeeaaDoorTreeRightG7
import Derived.Test.YtbngfhlciebeeaaDoorTreeRightG37
section
namespace Go.Proofs.YtbngfhlciebeeaaDoor.L
open Go.RowKit Go.Proofs.YtbngfhlciebeeaaDoorW.PrintWords Go.Proofs.YtbngfhlciebeeaaDoorW.PrintLast Go.Proofs.YtbngfhlciebeeaaDoorW.PrintMore
attribute [local go_sem] max2_int min2_int max_two min_two max_three min_three max_four min_four   -- for this text's walks alone
set_option linter.unusedVariables false
set_option linter.unusedSimpArgs false
mutual
def whirligiglaw22_refs.l0 : Nat → List (S65) → List (S43) → Int → Int → Option ((List (S65)))
 | 0, _, _, _, _ => none
 | k + 1, x3, x9, x10, x11 => if x11 < x10 then (if 0 ≤ x11 then (if x11 < (x9.length : Int) then (whirligiglaw22_refs.l1 k x3 x9 x10 x11 ((rd_T43 x9 x11).f3) (((rd_T43 x9 x11).f3).length : Int) 0 ((rd_T43 x9 x11).f0) ((rd_T43 x9 x11).f1) ((rd_T43 x9 x11).f2) ([] : List (S47))) else (none)) else (none)) else (some x3)
def whirligiglaw22_refs.l1 : Nat → List (S65) → List (S43) → Int → Int → List (S45) → Int → Int → Int → Int → Int → List (S47) → Option ((List (S65)))
 | 0, _, _, _, _, _, _, _, _, _, _, _ => none
 | k + 1, x3, x9, x10, x11, x23, x24, x25, x476000, x476001, x476002, x476003 => if x25 < x24 then (if 0 ≤ x25 then (if x25 < (x23.length : Int) then (if x476003.length < 3518437208883 then (whirligiglaw22_refs.l1 k x3 x9 x10 x11 x23 x24 (wrap64 (x25 + 1)) x476000 x476001 x476002 (x476003 ++ [(⟨(rd_T45 x23 x25).f0, (rd_T45 x23 x25).f1, (rd_T45 x23 x25).f2, (rd_T45 x23 x25).f3⟩ : S47)])) else (none)) else (none)) else (none)) else (if x3.length < 2932031007402 then (whirligiglaw22_refs.l0 k (x3 ++ [(⟨x476000, x476001, x476002, x476003⟩ : S65)]) x9 x10 (wrap64 (x11 + 1))) else (none))
end
def whirligiglaw22_refs.f (k : Nat) (l0 : List (S43)) : Option ((List (S65))) := whirligiglaw22_refs.l0 k ([] : List (S65)) l0 (l0.length : Int) 0
theorem whirligiglaw22_refs.mono_l : ∀ k, (∀ y0 y1 y2 y3, LeO (whirligiglaw22_refs.l0 k y0 y1 y2 y3) (whirligiglaw22_refs.l0 (k + 1) y0 y1 y2 y3)) ∧ (∀ y0 y1 y2 y3 y4 y5 y6 y7 y8 y9 y10, LeO (whirligiglaw22_refs.l1 k y0 y1 y2 y3 y4 y5 y6 y7 y8 y9 y10) (whirligiglaw22_refs.l1 (k + 1) y0 y1 y2 y3 y4 y5 y6 y7 y8 y9 y10))
 | 0 => ⟨fun _ _ _ _ r h => by simp [whirligiglaw22_refs.l0] at h, fun _ _ _ _ _ _ _ _ _ _ _ r h => by simp [whirligiglaw22_refs.l1] at h⟩
 | k + 1 => by
  obtain ⟨ih0, ih1⟩ := whirligiglaw22_refs.mono_l k
  refine ⟨?_, ?_⟩
  ·intro y0 y1 y2 y3
   unfold whirligiglaw22_refs.l0
   repeat' first
   | (with_reducible exact ih0 _ _ _ _)
   | (with_reducible exact ih1 _ _ _ _ _ _ _ _ _ _ _)
   | (with_reducible exact LeO.refl _)
   | (with_reducible exact LeO.none _)
   | (with_reducible refine LeO.ite ?_ ?_)
   | (with_reducible refine LeO.bind ?_ (fun _ => ?_))
   | exact ih0 _ _ _ _
   | exact ih1 _ _ _ _ _ _ _ _ _ _ _
   | exact LeO.none _
   | refine LeO.ite ?_ ?_
   | refine LeO.bind ?_ (fun _ => ?_)
  ·intro y0 y1 y2 y3 y4 y5 y6 y7 y8 y9 y10
   unfold whirligiglaw22_refs.l1
   repeat' first
   | (with_reducible exact ih0 _ _ _ _)
   | (with_reducible exact ih1 _ _ _ _ _ _ _ _ _ _ _)
   | (with_reducible exact LeO.refl _)
   | (with_reducible exact LeO.none _)
   | (with_reducible refine LeO.ite ?_ ?_)
   | (with_reducible refine LeO.bind ?_ (fun _ => ?_))
   | exact ih0 _ _ _ _
   | exact ih1 _ _ _ _ _ _ _ _ _ _ _
   | exact LeO.none _
   | refine LeO.ite ?_ ?_
   | refine LeO.bind ?_ (fun _ => ?_)
theorem whirligiglaw22_refs.mono : ∀ a0 k, LeO (whirligiglaw22_refs.f k a0) (whirligiglaw22_refs.f (k + 1) a0) := by
 intro a0 k
 obtain ⟨ih0, ih1⟩ := whirligiglaw22_refs.mono_l k
 unfold whirligiglaw22_refs.f
 repeat' first
   | (with_reducible exact ih0 _ _ _ _)
   | (with_reducible exact ih1 _ _ _ _ _ _ _ _ _ _ _)
   | (with_reducible exact LeO.refl _)
   | (with_reducible exact LeO.none _)
   | (with_reducible refine LeO.ite ?_ ?_)
   | (with_reducible refine LeO.bind ?_ (fun _ => ?_))
   | exact ih0 _ _ _ _
   | exact ih1 _ _ _ _ _ _ _ _ _ _ _
   | exact LeO.none _
   | refine LeO.ite ?_ ?_
   | refine LeO.bind ?_ (fun _ => ?_)
set_option maxHeartbeats 8000000 in
set_option maxRecDepth 100000 in
theorem whirligiglaw22_refs.calls (k : Nat) (A0 : Option Addr) (c0 : Nat) (l0 : List (S43)) (r : List (S65)) (w : World) (hr0 : Kd.C k43 w A0 l0.length l0) (hc0 : l0.length ≤ c0) (h : whirligiglaw22_refs.f k l0 = some r) :
  Calls Tryd.prog 37 #[.slice A0 l0.length c0] w fun e w' => ∃ v0_ : Value, e = .returned (v0_) ∧ Kd.S k65 65 w' w.heap.size (fun _ => True) v0_ r ∧ Below w.heap.size w w' := by
 have hu43 := Tryd.underlying43
 have hu65 := Tryd.underlying65
 have hu45 := Tryd.underlying45
 have HR0 := Aside0.mk hr0
 have HC0 := Aside0.mk hc0
 clear hr0 hc0
 have HB := Aside0.mk (Below.refl w.heap.size w)
 have H : (whirligiglaw22_refs.l0 k ([] : List (S65)) l0 (l0.length : Int) 0) = some r := h
 clear h
 have H' := Aside0.mk H
 clear H
 go_enter Tryd.func37, Tryd.ntmps37
 go_wp2
 go_loopg [3, 11] k (fun kq v3 v11 w' => ∃ (x3_1 : List (S65)) (x11_1 : Int), v11 = .int .i64 x11_1 ∧ Aside0 (whirligiglaw22_refs.l0 kq x3_1 l0 (l0.length : Int) x11_1 = some r) ∧ Aside0 (kq ≤ k) ∧ Aside0 (Kd.S k65 65 w' w.heap.size (fun _ => True) v3 x3_1) ∧ Aside0 (Below w.heap.size w w'))
 case atStart => exact ⟨(([] : List (S65))), (0), (by first | rfl | (simp; done) | (simp [*]; done)), H', ⟨Nat.le_refl _⟩, ⟨by first | exact Kd.S_nil _ _ _ _ _ | exact Kd.N_nil _ _ _ _ _ | exact Kd.V_nil _ _ _ _ _ | exact Kd.Q_nil _ _ _ _ _ | exact Kd.R_nil _ _ _ _ _⟩, ⟨qB⟩⟩
 case round =>
  clear H'
  obtain ⟨x3_1, x11_1, rfl, HA, HK1, HO_3, HB⟩ := hrel
  cases gk with
  | zero => exact absurd HA.out (by simp [whirligiglaw22_refs.l0])
  | succ k1 =>
   have H := HA.out
   clear HA
   simp only [whirligiglaw22_refs.l0] at H
   by_cases c2 : x11_1 < (l0.length : Int)
   ·rw [if_pos c2] at H
    have c2b0 := decide_eq_true c2
    clear c2
    by_cases c3 : 0 ≤ x11_1
    ·rw [if_pos c3] at H
     have c3b0 := decide_eq_true c3
     clear c3
     by_cases c4 : x11_1 < (l0.length : Int)
     ·rw [if_pos c4] at H
      have c4b0 := decide_eq_true c4
      clear c4
      have H' := Aside0.mk H
      clear H
      have p473 : 0 ≤ (x11_1 : Int) := qD
      have q473 : x11_1 < (l0.length : Int) := qD
      obtain ⟨ad473, A473_3, c473_3, e473, hx473_0, hx473_1, hx473_2, hx473_3, hl473_3, hi473_3⟩ := at_T43 HR0.out x11_1 p473 q473
      cases e473
      replace hx473_0 := pw_cell_below HB.out hx473_0
      replace hx473_1 := pw_cell_below HB.out hx473_1
      replace hx473_2 := pw_cell_below HB.out hx473_2
      replace hx473_3 := pw_cell_below HB.out hx473_3
      have HR473_3 := Aside0.mk hi473_3
      have HC473_3 := Aside0.mk hl473_3
      clear hi473_3 hl473_3
      replace p473 := eq_true p473
      replace q473 := eq_true q473
      go_wp2_with (first | (refine bx 5 #[.int .i64 0, .int .i64 0, .int .i64 0, .slice none 0 0] 43 ?_; intro gb474 hg w5 hbox hb; have n0_ := Aside0.mk (Kd.S_below (by (with_reducible repeat (first | apply Kd.S_alloc | apply Kd.S_drewN | apply Kd.S_drew)); exact HO_3.out) hb); have n1_ := bst hb; have n2_ := Aside0.mk (hbox); have n3_ := geS hg; have n4_ := geS hg; clear HO_3; clear HB; have HO_3 := n0_; have HB := n1_; have BK474 := n2_; have GW474 := n3_; have GE474 := n4_; clear n0_ n1_ n2_ n3_ n4_; clear hb hbox hg; obtain ⟨hcz6_0, hcz6_1, hcz6_2, hcz6_3, hfz6_0, hfz6_1, hfz6_2, hfz6_3⟩ := cells4 BK474.out) | (refine bx 6 #[.int .i64 0, .int .i64 0, .int .i64 0, .slice none 0 0] 65 ?_; intro gb475 hg w7 hbox hb; have n0_ := Aside0.mk (Kd.S_below (Kd.S_elderB (by (with_reducible repeat (first | apply Kd.S_alloc | apply Kd.S_drewN | apply Kd.S_drew)); exact (Kd.S_mono (Kd.S_far (p := ⟨gb474, 3, none⟩) (Kd.S_far (p := ⟨gb474, 2, none⟩) (Kd.S_far (p := ⟨gb474, 1, none⟩) (Kd.S_far (p := ⟨gb474, 0, none⟩) (Kd.S_types HO_3.out BK474.out (by decide)) (fun _ hk => hk.2) (.int .i64 ((rd_T43 l0 x11_1).f0))) (fun _ hk => hk.2) (.int .i64 ((rd_T43 l0 x11_1).f1))) (fun _ hk => hk.2) (.int .i64 ((rd_T43 l0 x11_1).f2))) (fun _ hk => hk.2) (.slice A473_3 ((rd_T43 l0 x11_1).f3).length c473_3)) (fun _ h_ => h_.1))) gb475 (Nat.le_of_eq hg.symm)) hb); have n1_ := kp gb474 (.cells #[.int .i64 ((rd_T43 l0 x11_1).f0), .int .i64 ((rd_T43 l0 x11_1).f1), .int .i64 ((rd_T43 l0 x11_1).f2), .slice A473_3 ((rd_T43 l0 x11_1).f3).length c473_3] 43 (0, 0)) hb; have n2_ := bst hb; have n3_ := Aside0.mk (hbox); have n4_ := geS hg; have n5_ := geS hg; have n6_ := neS gb474 hg; have n7_ := neT gb474 hg; clear HO_3; clear BK474; clear HB; have HO_3 := n0_; have BK474 := n1_; have HB := n2_; have BK475 := n3_; have GW475 := n4_; have GE475 := n5_; have NB474_475 := n6_; have NB475_474 := n7_; clear n0_ n1_ n2_ n3_ n4_ n5_ n6_ n7_; clear hb hbox hg; have hnb8 := NB475_474.out; have hnc8 := NB474_475.out; obtain ⟨hcz9_0, hcz9_1, hcz9_2, hcz9_3, hfz9_0, hfz9_1, hfz9_2, hfz9_3⟩ := cells4 BK475.out; obtain ⟨hcz10_0, hcz10_1, hcz10_2, hcz10_3, hfz10_0, hfz10_1, hfz10_2, hfz10_3⟩ := cells4 BK474.out))
      go_loopg [25] k1 (fun kq v25 w' => ∃ (x25_2 : Int) (x476003_2 : List (S47)) (u476003 : Value), v25 = .int .i64 x25_2 ∧ Aside0 (whirligiglaw22_refs.l1 kq x3_1 l0 (l0.length : Int) x11_1 ((rd_T43 l0 x11_1).f3) (((rd_T43 l0 x11_1).f3).length : Int) x25_2 ((rd_T43 l0 x11_1).f0) ((rd_T43 l0 x11_1).f1) ((rd_T43 l0 x11_1).f2) x476003_2 = some r) ∧ Aside0 (kq ≤ k1) ∧ Aside0 (Kd.S k65 65 w' w.heap.size (fun k_ => some k_ ≠ (u476003 : Value).ownBlock ∧ k_ ≠ gb475) u3 x3_1) ∧ Aside0 (Kd.R k47 47 w' w.heap.size (fun _ => True) u476003 x476003_2) ∧ Aside0 (w'.heap[gb474]? = some (.cells #[.int .i64 ((rd_T43 l0 x11_1).f0), .int .i64 ((rd_T43 l0 x11_1).f1), .int .i64 ((rd_T43 l0 x11_1).f2), (.slice A473_3 ((rd_T43 l0 x11_1).f3).length c473_3)] 43 (0, 0))) ∧ Aside0 (w'.heap[gb475]? = some (.cells #[.int .i64 ((rd_T43 l0 x11_1).f0), .int .i64 ((rd_T43 l0 x11_1).f1), .int .i64 ((rd_T43 l0 x11_1).f2), u476003] 65 (0, 0))) ∧ Aside0 (Below w.heap.size w w'))
      case atStart => exact ⟨(0), (([] : List (S47))), (.slice none 0 0), (by first | rfl | (simp; done) | (simp [*]; done)), H', ⟨Nat.le_refl _⟩, ⟨by (with_reducible repeat (first | apply Kd.S_alloc | apply Kd.S_drewN | apply Kd.S_drew)); exact Kd.S_mono (Kd.S_far (p := ⟨gb475, 3, none⟩) (Kd.S_far (p := ⟨gb475, 2, none⟩) (Kd.S_far (p := ⟨gb475, 1, none⟩) (Kd.S_far (p := ⟨gb475, 0, none⟩) (Kd.S_mono HO_3.out (fun k_ hk => (⟨hk, hk.2⟩ : _ ∧ k_ ≠ gb475))) (fun _ hk => hk.2) (.int .i64 ((rd_T43 l0 x11_1).f0))) (fun _ hk => hk.2) (.int .i64 ((rd_T43 l0 x11_1).f1))) (fun _ hk => hk.2) (.int .i64 ((rd_T43 l0 x11_1).f2))) (fun _ hk => hk.2) (.slice none 0 0)) (fun _ hk => ⟨(by simp [Value.ownBlock]), hk.1.2⟩)⟩, ⟨by first | exact Kd.R_nil _ _ _ _ _ | exact Kd.N_nil _ _ _ _ _ | exact Kd.V_nil _ _ _ _ _ | exact Kd.Q_nil _ _ _ _ _ | exact Kd.S_nil _ _ _ _ _⟩, ⟨qK⟩, ⟨qP⟩, ⟨qB⟩⟩
      case round =>
       clear H'
       try clear c2
       try clear c2b0
       try clear p2
       try clear c3
       try clear c3b0
       try clear c4
       try clear c4b0
       try clear p4
       try clear q4
       try clear hx4
       try clear c8
       try clear hcz10_0 hcz10_1 hcz10_2 hcz10_3 hfz10_0 hfz10_1 hfz10_2 hfz10_3
       try clear hcz6_0 hcz6_1 hcz6_2 hcz6_3 hfz6_0 hfz6_1 hfz6_2 hfz6_3
       try clear hcz9_0 hcz9_1 hcz9_2 hcz9_3 hfz9_0 hfz9_1 hfz9_2 hfz9_3
       try clear hx473_0
       try clear hx473_1
       try clear hx473_2
       try clear hx473_3
       try clear p473
       try clear q473
       obtain ⟨x25_2, x476003_2, u476003, rfl, HA, HK2, HO_3, HO_476003, BK474, BK475, HB⟩ := hrel
       cases gk with
       | zero => exact absurd HA.out (by simp [whirligiglaw22_refs.l1])
       | succ k2 =>
        have H := HA.out
        clear HA
        simp only [whirligiglaw22_refs.l1] at H
        by_cases c11 : x25_2 < (((rd_T43 l0 x11_1).f3).length : Int)
        ·rw [if_pos c11] at H
         have c11b0 := decide_eq_true c11
         clear c11
         by_cases c12 : 0 ≤ x25_2
         ·rw [if_pos c12] at H
          have c12b0 := decide_eq_true c12
          clear c12
          by_cases c13 : x25_2 < (((rd_T43 l0 x11_1).f3).length : Int)
          ·rw [if_pos c13] at H
           have c13b0 := decide_eq_true c13
           clear c13
           by_cases c14 : x476003_2.length < 3518437208883
           ·rw [if_pos c14] at H
            have LMc14 := Aside0.mk c14
            clear c14
            obtain ⟨y478, hy478⟩ : ∃ y_ : List (S47), y_ = (x476003_2 ++ [(⟨(rd_T45 ((rd_T43 l0 x11_1).f3) x25_2).f0, (rd_T45 ((rd_T43 l0 x11_1).f3) x25_2).f1, (rd_T45 ((rd_T43 l0 x11_1).f3) x25_2).f2, (rd_T45 ((rd_T43 l0 x11_1).f3) x25_2).f3⟩ : S47)]) := ⟨_, rfl⟩
            replace H : (whirligiglaw22_refs.l1 k2 x3_1 l0 (l0.length : Int) x11_1 ((rd_T43 l0 x11_1).f3) (((rd_T43 l0 x11_1).f3).length : Int) (wrap64 (x25_2 + 1)) ((rd_T43 l0 x11_1).f0) ((rd_T43 l0 x11_1).f1) ((rd_T43 l0 x11_1).f2) y478) = some r := by first | (rw [hy478]; with_reducible exact H) | (have H2_ := (Option.bind_some _ _).symm.trans H; rw [hy478]; with_reducible exact H2_) | (have H2_ := (Option.bind_some _ _).symm.trans H; with_reducible exact H2_) | with_reducible exact H | (rw [hy478]; exact H) | exact H
            have Ny478 := Aside0.mk hy478
            clear hy478
            have H' := Aside0.mk H
            clear H
            have p476 : 0 ≤ (x25_2 : Int) := qD
            have q476 : x25_2 < (((rd_T43 l0 x11_1).f3).length : Int) := qD
            obtain ⟨ad476, e476, hx476_0, hx476_1, hx476_2, hx476_3⟩ := at_T45 (Kd.C_below HR473_3.out HB.out) x25_2 p476 q476
            cases e476
            replace p476 := eq_true p476
            replace q476 := eq_true q476
            go_wp2_with (first | (refine bx 8 #[.int .i64 0, .int .i64 0, .string (⟨#[]⟩ : ByteArray), .int .i64 0] 45 ?_; intro gb477 hg w15 hbox hb; have n0_ := Aside0.mk (Kd.S_below (by (with_reducible repeat (first | apply Kd.S_alloc | apply Kd.S_drewN | apply Kd.S_drew)); exact HO_3.out) hb); have n1_ := rb HO_476003 hb; have n2_ := kb gb474 hb; have n3_ := kb gb475 hb; have n4_ := bst hb; have n5_ := Aside0.mk (hbox); have n6_ := geS hg; have n7_ := geS hg; have n8_ := neS gb474 hg; have n9_ := neT gb474 hg; have n10_ := neS gb475 hg; have n11_ := neT gb475 hg; clear HO_3; clear HO_476003; clear BK474; clear BK475; clear HB; have HO_3 := n0_; have HO_476003 := n1_; have BK474 := n2_; have BK475 := n3_; have HB := n4_; have BK477 := n5_; have GW477 := n6_; have GE477 := n7_; have NB474_477 := n8_; have NB477_474 := n9_; have NB475_477 := n10_; have NB477_475 := n11_; clear n0_ n1_ n2_ n3_ n4_ n5_ n6_ n7_ n8_ n9_ n10_ n11_; clear hb hbox hg; have hnb16 := NB477_474.out; have hnc16 := NB474_477.out; have hnb17 := NB477_475.out; have hnc17 := NB475_477.out; obtain ⟨hcz18_0, hcz18_1, hcz18_2, hcz18_3, hfz18_0, hfz18_1, hfz18_2, hfz18_3⟩ := cells4 BK477.out; have hnb19 := NB475_474.out; have hnc19 := NB474_475.out; obtain ⟨hcz20_0, hcz20_1, hcz20_2, hcz20_3, hfz20_0, hfz20_1, hfz20_2, hfz20_3⟩ := cells4 BK475.out) | ((with_reducible refine gate_builtin (b := .append) (xs := #[.tmp 30, .tmp 32]) rfl ?_); at_builtin; refine Kd.R_append k47 (w0 := w) w.heap.size rfl (.tmp 30) (.tmp 32) 63 47 (.agg #[(.int .i64 0), (.int .i64 0), (.string ⟨#[]⟩), (.int .i64 0)]) 40 rfl Tryd.underlying63 info47 rfl (by decide) (by omega) u476003 x476003_2 (⟨(rd_T45 ((rd_T43 l0 x11_1).f3) x25_2).f0, (rd_T45 ((rd_T43 l0 x11_1).f3) x25_2).f1, (rd_T45 ((rd_T43 l0 x11_1).f3) x25_2).f2, (rd_T45 ((rd_T43 l0 x11_1).f3) x25_2).f3⟩ : S47) [.int .i64 ((rd_T45 ((rd_T43 l0 x11_1).f3) x25_2).f0), .int .i64 ((rd_T45 ((rd_T43 l0 x11_1).f3) x25_2).f1), .string ((rd_T45 ((rd_T43 l0 x11_1).f3) x25_2).f2), .int .i64 ((rd_T45 ((rd_T43 l0 x11_1).f3) x25_2).f3)] (fun _ => True) (fun _ => False) rfl (by first | (go_simp; done) | (go_simp; rfl)) ?aP (fun _ hk => hk.elim) ?aF ?aO ?aB ?aS ?aL ?_; (case aP => exact k47_mkM _ _ _ (⟨(rd_T45 ((rd_T43 l0 x11_1).f3) x25_2).f0, (rd_T45 ((rd_T43 l0 x11_1).f3) x25_2).f1, (rd_T45 ((rd_T43 l0 x11_1).f3) x25_2).f2, (rd_T45 ((rd_T43 l0 x11_1).f3) x25_2).f3⟩ : S47)); (case aB => exact qB); (case aF => exact (fun _ _ => trivial)); (case aO => exact (by (with_reducible repeat (first | apply Kd.R_alloc | apply Kd.R_drewN | apply Kd.R_drew)); exact Kd.R_mono (Kd.R_far (p := ⟨gb477, 3, none⟩) (Kd.R_far (p := ⟨gb477, 2, none⟩) (Kd.R_far (p := ⟨gb477, 1, none⟩) (Kd.R_far (p := ⟨gb477, 0, none⟩) (Kd.R_types HO_476003.out BK477.out (by decide)) (fun _ hk => hk.2) (.int .i64 ((rd_T45 ((rd_T43 l0 x11_1).f3) x25_2).f0))) (fun _ hk => hk.2) (.int .i64 ((rd_T45 ((rd_T43 l0 x11_1).f3) x25_2).f1))) (fun _ hk => hk.2) (.string ((rd_T45 ((rd_T43 l0 x11_1).f3) x25_2).f2))) (fun _ hk => hk.2) (.int .i64 ((rd_T45 ((rd_T43 l0 x11_1).f3) x25_2).f3))) (fun _ hk => trivial))); (case aS => exact (below_size qB)); (case aL => have := LMc14.out; omega); intro v479 w21 ho hb hg hat; rw [← Ny478.out] at ho; have n0_ := Aside0.mk (Kd.S_after (ok := (fun k_ => k_ ≠ gb475)) (by (with_reducible repeat (first | apply Kd.S_alloc | apply Kd.S_drewN | apply Kd.S_drew)); exact Kd.S_mono (Kd.S_far (p := ⟨gb477, 3, none⟩) (Kd.S_far (p := ⟨gb477, 2, none⟩) (Kd.S_far (p := ⟨gb477, 1, none⟩) (Kd.S_far (p := ⟨gb477, 0, none⟩) (Kd.S_types HO_3.out BK477.out (by decide)) (fun _ hk => hk.2) (.int .i64 ((rd_T45 ((rd_T43 l0 x11_1).f3) x25_2).f0))) (fun _ hk => hk.2) (.int .i64 ((rd_T45 ((rd_T43 l0 x11_1).f3) x25_2).f1))) (fun _ hk => hk.2) (.string ((rd_T45 ((rd_T43 l0 x11_1).f3) x25_2).f2))) (fun _ hk => hk.2) (.int .i64 ((rd_T45 ((rd_T43 l0 x11_1).f3) x25_2).f3))) (fun _ hk => ⟨hk.1.2, hk.1.1⟩)) hg hat); have n1_ := Aside0.mk (blk_grown (g := gb474) (o := .cells #[.int .i64 ((rd_T43 l0 x11_1).f0), .int .i64 ((rd_T43 l0 x11_1).f1), .int .i64 ((rd_T43 l0 x11_1).f2), .slice (some ad476) ((rd_T43 l0 x11_1).f3).length c473_3] 43 (0, 0)) qK hg (Kd.R_ne HO_476003.out BK474.out (by decide))); have n2_ := Aside0.mk (blk_grown (g := gb475) (o := .cells #[.int .i64 ((rd_T43 l0 x11_1).f0), .int .i64 ((rd_T43 l0 x11_1).f1), .int .i64 ((rd_T43 l0 x11_1).f2), u476003] 65 (0, 0)) qK hg (Kd.R_ne HO_476003.out BK475.out (by decide))); have n3_ := Aside0.mk (blk_grown (g := gb477) (o := .cells #[.int .i64 ((rd_T45 ((rd_T43 l0 x11_1).f3) x25_2).f0), .int .i64 ((rd_T45 ((rd_T43 l0 x11_1).f3) x25_2).f1), .string ((rd_T45 ((rd_T43 l0 x11_1).f3) x25_2).f2), .int .i64 ((rd_T45 ((rd_T43 l0 x11_1).f3) x25_2).f3)] 45 (0, 0)) qP hg (Kd.R_ne HO_476003.out BK477.out (by decide))); have n4_ := Aside0.mk (hb); have n5_ := Aside0.mk (ho); clear HO_3; clear BK474; clear BK475; clear BK477; clear HB; clear HO_476003; have HO_3 := n0_; have BK474 := n1_; have BK475 := n2_; have BK477 := n3_; have HB := n4_; have HO480 := n5_; clear n0_ n1_ n2_ n3_ n4_ n5_; clear ho hb hg hat; obtain ⟨Ao22, co22, eo22⟩ := Kd.R_slice HO480.out; subst eo22; obtain ⟨hcz23_0, hcz23_1, hcz23_2, hcz23_3, hfz23_0, hfz23_1, hfz23_2, hfz23_3⟩ := cells4 BK475.out))
            go_roundg k2
            case measure => have := HK1.out; have := HK2.out; omega
            case rel => exact ⟨(wrap64 (x25_2 + 1)), (y478), (.slice Ao22 y478.length co22), (by first | rfl | (simp; done) | (simp [*]; done)), H', ⟨by have := HK1.out; have := HK2.out; omega⟩, ⟨by (with_reducible repeat (first | apply Kd.S_alloc | apply Kd.S_drewN | apply Kd.S_drew)); exact Kd.S_mono (Kd.S_far (p := ⟨gb475, 3, none⟩) (Kd.S_mono HO_3.out (fun k_ hk => (⟨hk, hk.1⟩ : _ ∧ k_ ≠ gb475))) (fun _ hk => hk.2) (.slice Ao22 y478.length co22)) (fun _ hk => ⟨hk.1.2, hk.1.1⟩)⟩, ⟨by (with_reducible repeat (first | apply Kd.R_alloc | apply Kd.R_drewN | apply Kd.R_drew)); exact Kd.R_mono (Kd.R_far (p := ⟨gb475, 3, none⟩) (Kd.R_types HO480.out BK475.out (by decide)) (fun _ hk => hk.2) (.slice Ao22 y478.length co22)) (fun _ hk => trivial)⟩, ⟨qK⟩, ⟨qP⟩, ⟨qB⟩⟩
           ·rw [if_neg c14] at H
            exact absurd H (by simp)
          ·rw [if_neg c13] at H
           exact absurd H (by simp)
         ·rw [if_neg c12] at H
          exact absurd H (by simp)
        ·rw [if_neg c11] at H
         have c11b0 := decide_eq_false c11
         clear c11
         by_cases c24 : x3_1.length < 2932031007402
         ·rw [if_pos c24] at H
          have LMc24 := Aside0.mk c24
          clear c24
          obtain ⟨y481, hy481⟩ : ∃ y_ : List (S65), y_ = (x3_1 ++ [(⟨((rd_T43 l0 x11_1).f0), ((rd_T43 l0 x11_1).f1), ((rd_T43 l0 x11_1).f2), x476003_2⟩ : S65)]) := ⟨_, rfl⟩
          replace H : (whirligiglaw22_refs.l0 k2 y481 l0 (l0.length : Int) (wrap64 (x11_1 + 1))) = some r := by first | (rw [hy481]; with_reducible exact H) | (have H2_ := (Option.bind_some _ _).symm.trans H; rw [hy481]; with_reducible exact H2_) | (have H2_ := (Option.bind_some _ _).symm.trans H; with_reducible exact H2_) | with_reducible exact H | (rw [hy481]; exact H) | exact H
          have Ny481 := Aside0.mk hy481
          clear hy481
          have H' := Aside0.mk H
          clear H
          have hnb25 := NB475_474.out
          have hnc25 := NB474_475.out
          obtain ⟨hcz26_0, hcz26_1, hcz26_2, hcz26_3, hfz26_0, hfz26_1, hfz26_2, hfz26_3⟩ := cells4 BK475.out
          obtain ⟨Ao28, co28, eo28⟩ := Kd.R_slice HO_476003.out
          subst eo28
          go_wp2_with (first | ((with_reducible refine gate_builtin (b := .append) (xs := #[.tmp 36, .tmp 38]) rfl ?_); at_builtin; refine Kd.S_append k65 (w0 := w) w.heap.size rfl (.tmp 36) (.tmp 38) 49 65 (.agg #[(.int .i64 0), (.int .i64 0), (.int .i64 0), (.slice none 0 0)]) 48 rfl Tryd.underlying49 info65 rfl (by decide) (by omega) u3 x3_1 (⟨((rd_T43 l0 x11_1).f0), ((rd_T43 l0 x11_1).f1), ((rd_T43 l0 x11_1).f2), x476003_2⟩ : S65) [.int .i64 ((rd_T43 l0 x11_1).f0), .int .i64 ((rd_T43 l0 x11_1).f1), .int .i64 ((rd_T43 l0 x11_1).f2), .slice Ao28 x476003_2.length co28] (fun k_ => k_ ≠ gb475) (fun k_ => some k_ = (.slice Ao28 x476003_2.length co28 : Value).ownBlock) rfl rfl ?aP (fun k_ hk_ => ((Kd.R_mono (ok' := fun k_ => ((fun k_ => k_ ≠ gb475)) k_ ∧ some k_ ≠ (u3 : Value).ownBlock) (Kd.R_types (Kd.R_apart' (HO_476003.out) (Kd.S_typed HO_3.out) (by decide)) BK475.out (by decide)) (fun k_ hk => ⟨hk.2, hk.1.2⟩))).1 k_ hk_.symm) ?aF ?aO ?aB ?aS ?aL ?_; (case aP => exact k65_mkM _ _ _ (⟨((rd_T43 l0 x11_1).f0), ((rd_T43 l0 x11_1).f1), ((rd_T43 l0 x11_1).f2), x476003_2⟩ : S65) (Kd.R_mono (Kd.R_tight rfl (Kd.R_mono (ok' := fun k_ => ((fun k_ => k_ ≠ gb475)) k_ ∧ some k_ ≠ (u3 : Value).ownBlock) (Kd.R_types (Kd.R_apart' (HO_476003.out) (Kd.S_typed HO_3.out) (by decide)) BK475.out (by decide)) (fun k_ hk => ⟨hk.2, hk.1.2⟩))) (fun _ h_ => h_))); (case aB => exact qB); (case aF => exact (fun k_ hk => Kd.freshB (g := gb475) (o := .cells #[.int .i64 ((rd_T43 l0 x11_1).f0), .int .i64 ((rd_T43 l0 x11_1).f1), .int .i64 ((rd_T43 l0 x11_1).f2), .slice Ao28 x476003_2.length co28] 65 (0, 0)) qK k_ hk)); (case aO => exact (by (with_reducible repeat (first | apply Kd.S_alloc | apply Kd.S_drewN | apply Kd.S_drew)); exact Kd.S_mono HO_3.out (fun k_ hk => ⟨hk.2, fun e_ => hk.1 e_⟩))); (case aS => exact (below_size qB)); (case aL => have := LMc24.out; omega); intro v482 w27 ho hb hg hat; rw [← Ny481.out] at ho; have n0_ := Aside0.mk (blk_grown (g := gb474) (o := .cells #[.int .i64 ((rd_T43 l0 x11_1).f0), .int .i64 ((rd_T43 l0 x11_1).f1), .int .i64 ((rd_T43 l0 x11_1).f2), .slice A473_3 ((rd_T43 l0 x11_1).f3).length c473_3] 43 (0, 0)) qK hg (Kd.S_ne HO_3.out BK474.out (by decide))); have n1_ := Aside0.mk (blk_grown (g := gb475) (o := .cells #[.int .i64 ((rd_T43 l0 x11_1).f0), .int .i64 ((rd_T43 l0 x11_1).f1), .int .i64 ((rd_T43 l0 x11_1).f2), .slice Ao28 x476003_2.length co28] 65 (0, 0)) qK hg (Kd.S_away HO_3.out (fun _ hk => hk.2))); have n2_ := Aside0.mk (hb); have n3_ := Aside0.mk (ho); clear BK474; clear BK475; clear HB; clear HO_3; clear HO_476003; have BK474 := n0_; have BK475 := n1_; have HB := n2_; have HO483 := n3_; clear n0_ n1_ n2_ n3_; clear ho hb hg hat))
          go_roundg k2
          case measure => have := HK1.out; have := HK2.out; omega
          case rel => exact ⟨(y481), (wrap64 (x11_1 + 1)), (by first | rfl | (simp; done) | (simp [*]; done)), H', ⟨by have := HK1.out; have := HK2.out; omega⟩, ⟨by (with_reducible repeat (first | apply Kd.S_alloc | apply Kd.S_drewN | apply Kd.S_drew)); exact Kd.S_mono HO483.out (fun _ hk => trivial)⟩, ⟨qB⟩⟩
         ·rw [if_neg c24] at H
          exact absurd H (by simp)
     ·rw [if_neg c4] at H
      exact absurd H (by simp)
    ·rw [if_neg c3] at H
     exact absurd H (by simp)
   ·rw [if_neg c2] at H
    have c2b0 := decide_eq_false c2
    clear c2
    obtain rfl := Option.some.inj H
    go_wp2
    go_ret
    exact ⟨_, qR, by (with_reducible repeat (first | apply Kd.S_alloc | apply Kd.S_drewN | apply Kd.S_drew)); exact HO_3.out, qB⟩
end Go.Proofs.YtbngfhlciebeeaaDoor.L
end
section
namespace Go.Proofs.YtbngfhlciebeeaaDoor.Sp
set_option linter.unusedVariables false
set_option linter.unusedSimpArgs false
open Go.RowKit Go.Proofs.YtbngfhlciebeeaaDoor.L Go.Proofs.YtbngfhlciebeeaaDoorW.PrintWords
theorem refs_l1 (x3 : List S65) (l : List S43) (i : Int) (xs : List S45) (hn : xs.length ≤ 1000000) (hx3 : x3.length ≤ 1000000) (a b c : Int) (hi : 0 ≤ i ∧ i ≤ 1000000) (r : List S65) (d : Nat) : ∀ (j : Nat) (out : List S47), j ≤ xs.length → xs.length - j = d → out.length = j →
    Ev (fun k => whirligiglaw22_refs.l0 k (x3 ++ [⟨a, b, c, out ++ (xs.drop j).map i47⟩]) l (l.length : Int) (i + 1)) r →
    Ev (fun k => whirligiglaw22_refs.l1 k x3 l (l.length : Int) i xs (xs.length : Int) (j : Int) a b c out) r := by
  induction d with
  | zero =>
    intro j out hj hd ho h
    refine Ev.succ ?_
    simp only [whirligiglaw22_refs.l1]
    rw [wrap_at (x := i + 1) (by omega) (by omega)]
    rw [List.drop_eq_nil_of_le (by omega), List.map_nil, List.append_nil] at h
    exact Ev.neg (by omega) (Ev.pos (by omega) h)
  | succ d ih =>
    intro j out hj hd ho h
    have hjl : j < xs.length := by omega
    refine Ev.succ ?_
    simp only [whirligiglaw22_refs.l1]
    rw [rd45 hjl, wrap_at (x := (j : Int) + 1) (by omega) (by omega)]
    refine Ev.pos (by omega) (Ev.pos (by omega) (Ev.pos (by omega) (Ev.pos (by omega) ?_)))
    refine ih (j + 1) (out ++ [i47 xs[j]]) (by omega) (by omega) (by simp [ho]) ?_
    rw [List.drop_eq_getElem_cons hjl, List.map_cons] at h
    rw [List.append_assoc]
    exact h
theorem refs_l0 (l : List S43) (hs : smallT l) (d : Nat) : ∀ (j : Nat), j ≤ l.length → l.length - j = d →
    Ev (fun k => whirligiglaw22_refs.l0 k ((l.take j).map b65) l (l.length : Int) (j : Int)) (l.map b65) := by
  have hsz := hs.1
  induction d with
  | zero =>
    intro j hj hd
    refine Ev.succ ?_
    simp only [whirligiglaw22_refs.l0]
    refine Ev.neg (by omega) (Ev.some ?_)
    rw [List.take_of_length_le (by omega)]
  | succ d ih =>
    intro j hj hd
    have hjl : j < l.length := by omega
    have hb := (hs.2 l[j] (List.getElem_mem hjl)).1
    have hnext := ih (j + 1) (by omega) (by omega)
    refine Ev.succ ?_
    simp only [whirligiglaw22_refs.l0]
    rw [rd43 hjl]
    refine Ev.pos (by omega) (Ev.pos (by omega) (Ev.pos (by omega) ?_))
    refine refs_l1 _ l (j : Int) l[j].f3 hb (by rw [List.length_map, List.length_take]; omega) _ _ _ ⟨by omega, by omega⟩ _ _ 0 [] (by omega) rfl rfl ?_
    rw [List.take_succ_eq_append_getElem hjl, List.map_append] at hnext
    exact hnext
theorem refs_ev (l : List S43) (hs : smallT l) : Ev (fun k => whirligiglaw22_refs.f k l) (l.map b65) := by
  unfold whirligiglaw22_refs.f
  exact refs_l0 l hs _ 0 (by omega) rfl
end Go.Proofs.YtbngfhlciebeeaaDoor.Sp
end
