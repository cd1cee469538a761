/- Printed and hand-written steps towards the row (TreeRight), those that it reaches. -/
import Derived.Test.YtbngfhlciebeeaaDoorTreeRightLx0
import Derived.Test.YtbngfhlciebeeaaDoorTreeRightG7
section
namespace Go.Proofs.YtbngfhlciebeeaaDoor.L
open Go.RowKit Go.Proofs.YtbngfhlciebeeaaDoorW.PrintWords Go.Proofs.YtbngfhlciebeeaaDoorW.PrintLast Go.Proofs.YtbngfhlciebeeaaDoorW.PrintMore
attribute [local go_sem] max2_int min2_int max_two min_two max_three min_three max_four min_four   -- for this text's walks alone
set_option linter.unusedVariables false
set_option linter.unusedSimpArgs false
theorem eqA47 (d : Nat) (w : World) (x0 y0 : Int) (x1 y1 : Int) (x2 y2 : ByteArray) (x3 y3 : Int) :
    (Op.equalIn (d + 2) 47 (.agg #[.int .i64 x0, .int .i64 x1, .string x2, .int .i64 x3]) (.agg #[.int .i64 y0, .int .i64 y1, .string y2, .int .i64 y3])).run Tryd.prog w = .ok (x0 == y0 && (x1 == y1 && (x2.toList == y2.toList && (x3 == y3)))) w := by
  refine eqA_of Tryd.underlying47 (by kernel_rfl) ?_
  refine eqf_cons (by rfl) (by go_simp; rfl) (by go_simp; rfl) (by go_simp) ?_
  refine eqf_cons (by rfl) (by go_simp; rfl) (by go_simp; rfl) (by go_simp) ?_
  refine eqf_cons (by rfl) (by go_simp; rfl) (by go_simp; rfl) (by go_simp) ?_
  exact eqf_last (by rfl) (by go_simp; rfl) (by go_simp; rfl) (by go_simp)
end Go.Proofs.YtbngfhlciebeeaaDoor.L
end
section
namespace Go.Proofs.YtbngfhlciebeeaaDoor.L
open Go.RowKit Go.Proofs.YtbngfhlciebeeaaDoorW.PrintWords Go.Proofs.YtbngfhlciebeeaaDoorW.PrintLast Go.Proofs.YtbngfhlciebeeaaDoorW.PrintMore
attribute [local go_sem] max2_int min2_int max_two min_two max_three min_three max_four min_four   -- for this text's walks alone
set_option linter.unusedVariables false
set_option linter.unusedSimpArgs false
theorem eqA45 (d : Nat) (w : World) (x0 y0 : Int) (x1 y1 : Int) (x2 y2 : ByteArray) (x3 y3 : Int) :
    (Op.equalIn (d + 2) 45 (.agg #[.int .i64 x0, .int .i64 x1, .string x2, .int .i64 x3]) (.agg #[.int .i64 y0, .int .i64 y1, .string y2, .int .i64 y3])).run Tryd.prog w = .ok (x0 == y0 && (x1 == y1 && (x2.toList == y2.toList && (x3 == y3)))) w := by
  refine eqA_of Tryd.underlying45 (by kernel_rfl) ?_
  refine eqf_cons (by rfl) (by go_simp; rfl) (by go_simp; rfl) (by go_simp) ?_
  refine eqf_cons (by rfl) (by go_simp; rfl) (by go_simp; rfl) (by go_simp) ?_
  refine eqf_cons (by rfl) (by go_simp; rfl) (by go_simp; rfl) (by go_simp) ?_
  exact eqf_last (by rfl) (by go_simp; rfl) (by go_simp; rfl) (by go_simp)
end Go.Proofs.YtbngfhlciebeeaaDoor.L
end
section
namespace Go.Proofs.YtbngfhlciebeeaaDoor.L
open Go.RowKit Go.Proofs.YtbngfhlciebeeaaDoorW.PrintWords Go.Proofs.YtbngfhlciebeeaaDoorW.PrintLast Go.Proofs.YtbngfhlciebeeaaDoorW.PrintMore
attribute [local go_sem] max2_int min2_int max_two min_two max_three min_three max_four min_four   -- for this text's walks alone
set_option linter.unusedVariables false
set_option linter.unusedSimpArgs false
attribute [local go_sem high] eqA45
def tree_Branch_ahead.l0 : Nat → Int → List (S45) → List (S45) → Int → Int → Option ((List (S45)))
 | 0, _, _, _, _, _ => none
 | k + 1, x1, x5, x9, x10, x11 => if x11 < x10 then (if 0 ≤ x11 then (if x11 < (x9.length : Int) then (if ((rd_T45 x9 x11).f0) < x1 then (if x5.length < 3518437208883 then (tree_Branch_ahead.l0 k x1 (x5 ++ [(⟨(rd_T45 x9 x11).f0, (rd_T45 x9 x11).f1, (rd_T45 x9 x11).f2, (rd_T45 x9 x11).f3⟩ : S45)]) x9 x10 (wrap64 (x11 + 1))) else (none)) else (tree_Branch_ahead.l0 k x1 x5 x9 x10 (wrap64 (x11 + 1)))) else (none)) else (none)) else (some x5)
def tree_Branch_ahead.f (k : Nat) (a0_0 : Int) (a0_1 : Int) (a0_2 : Int) (l0_3 : List (S45)) (a1 : Int) : Option ((List (S45))) := tree_Branch_ahead.l0 k a1 ([] : List (S45)) l0_3 (l0_3.length : Int) 0
theorem tree_Branch_ahead.mono_l : ∀ k, (∀ y0 y1 y2 y3 y4, LeO (tree_Branch_ahead.l0 k y0 y1 y2 y3 y4) (tree_Branch_ahead.l0 (k + 1) y0 y1 y2 y3 y4))
 | 0 => fun _ _ _ _ _ r h => by simp [tree_Branch_ahead.l0] at h
 | k + 1 => by
  have ih0 := tree_Branch_ahead.mono_l k
  ·intro y0 y1 y2 y3 y4
   unfold tree_Branch_ahead.l0
   repeat' first
   | (with_reducible exact ih0 _ _ _ _ _)
   | (with_reducible exact LeO.refl _)
   | (with_reducible exact LeO.none _)
   | (with_reducible refine LeO.ite ?_ ?_)
   | (with_reducible refine LeO.bind ?_ (fun _ => ?_))
   | exact ih0 _ _ _ _ _
   | exact LeO.none _
   | refine LeO.ite ?_ ?_
   | refine LeO.bind ?_ (fun _ => ?_)
theorem tree_Branch_ahead.mono : ∀ a0 a1 a2 a3 a4 k, LeO (tree_Branch_ahead.f k a0 a1 a2 a3 a4) (tree_Branch_ahead.f (k + 1) a0 a1 a2 a3 a4) := by
 intro a0 a1 a2 a3 a4 k
 have ih0 := tree_Branch_ahead.mono_l k
 unfold tree_Branch_ahead.f
 repeat' first
   | (with_reducible exact ih0 _ _ _ _ _)
   | (with_reducible exact LeO.refl _)
   | (with_reducible exact LeO.none _)
   | (with_reducible refine LeO.ite ?_ ?_)
   | (with_reducible refine LeO.bind ?_ (fun _ => ?_))
   | exact ih0 _ _ _ _ _
   | exact LeO.none _
   | refine LeO.ite ?_ ?_
   | refine LeO.bind ?_ (fun _ => ?_)
set_option maxHeartbeats 8000000 in
set_option maxRecDepth 100000 in
theorem tree_Branch_ahead.calls (k : Nat) (a0_0 : Int) (a0_1 : Int) (a0_2 : Int) (A0_3 : Option Addr) (c0_3 : Nat) (l0_3 : List (S45)) (a1 : Int) (r : List (S45)) (w : World) (hr0_3 : Kd.C k45 w A0_3 l0_3.length l0_3) (hc0_3 : l0_3.length ≤ c0_3) (h : tree_Branch_ahead.f k a0_0 a0_1 a0_2 l0_3 a1 = some r) :
  Calls Tryd.prog 81 #[.agg #[.int .i64 a0_0, .int .i64 a0_1, .int .i64 a0_2, .slice A0_3 l0_3.length c0_3], .int .i64 a1] w fun e w' => ∃ v0_ : Value, e = .returned (v0_) ∧ Kd.R k45 45 w' w.heap.size (fun _ => True) v0_ r ∧ Below w.heap.size w w' := by
 have hu43 := Tryd.underlying43
 have hu45 := Tryd.underlying45
 have HR0_3 := Aside0.mk hr0_3
 have HC0_3 := Aside0.mk hc0_3
 clear hr0_3 hc0_3
 have HB := Aside0.mk (Below.refl w.heap.size w)
 have H : (tree_Branch_ahead.l0 k a1 ([] : List (S45)) l0_3 (l0_3.length : Int) 0) = some r := h
 clear h
 have H' := Aside0.mk H
 clear H
 go_enter Tryd.func81, Tryd.ntmps81
 go_wp2_with (first | (refine bx 2 #[.int .i64 a0_0, .int .i64 a0_1, .int .i64 a0_2, .slice A0_3 l0_3.length c0_3] 43 ?_; intro gb334 hg w3 hbox hb; have BK334 := Aside0.mk (hbox); have GW334 := geS hg; have GE334 := geS hg; replace HB := bst hb; clear hb hbox hg; obtain ⟨hcz4_0, hcz4_1, hcz4_2, hcz4_3, hfz4_0, hfz4_1, hfz4_2, hfz4_3⟩ := cells4 BK334.out))
 go_loopg [5, 11] k (fun kq v5 v11 w' => ∃ (x5_1 : List (S45)) (x11_1 : Int), v11 = .int .i64 x11_1 ∧ Aside0 (tree_Branch_ahead.l0 kq a1 x5_1 l0_3 (l0_3.length : Int) x11_1 = some r) ∧ Aside0 (kq ≤ k) ∧ Aside0 (Kd.R k45 45 w' w.heap.size (fun _ => True) v5 x5_1) ∧ Aside0 (w'.heap[gb334]? = some (.cells #[.int .i64 a0_0, .int .i64 a0_1, .int .i64 a0_2, (.slice A0_3 l0_3.length c0_3)] 43 (0, 0))) ∧ Aside0 (Below w.heap.size w w'))
 case atStart => exact ⟨(([] : List (S45))), (0), (by first | rfl | (simp; done) | (simp [*]; done)), H', ⟨Nat.le_refl _⟩, ⟨by first | exact Kd.R_nil _ _ _ _ _ | exact Kd.N_nil _ _ _ _ _ | exact Kd.V_nil _ _ _ _ _ | exact Kd.Q_nil _ _ _ _ _ | exact Kd.S_nil _ _ _ _ _⟩, ⟨qK⟩, ⟨qB⟩⟩
 case round =>
  clear H'
  try clear p2
  try clear hcz4_0 hcz4_1 hcz4_2 hcz4_3 hfz4_0 hfz4_1 hfz4_2 hfz4_3
  obtain ⟨x5_1, x11_1, rfl, HA, HK1, HO_5, BK334, HB⟩ := hrel
  cases gk with
  | zero => exact absurd HA.out (by simp [tree_Branch_ahead.l0])
  | succ k1 =>
   have H := HA.out
   clear HA
   simp only [tree_Branch_ahead.l0] at H
   by_cases c5 : x11_1 < (l0_3.length : Int)
   ·rw [if_pos c5] at H
    have c5b0 := decide_eq_true c5
    clear c5
    by_cases c6 : 0 ≤ x11_1
    ·rw [if_pos c6] at H
     have c6b0 := decide_eq_true c6
     clear c6
     by_cases c7 : x11_1 < (l0_3.length : Int)
     ·rw [if_pos c7] at H
      have c7b0 := decide_eq_true c7
      clear c7
      by_cases c8 : ((rd_T45 l0_3 x11_1).f0) < a1
      ·rw [if_pos c8] at H
       have c8b0 := decide_eq_true c8
       clear c8
       by_cases c9 : x5_1.length < 3518437208883
       ·rw [if_pos c9] at H
        have LMc9 := Aside0.mk c9
        clear c9
        obtain ⟨y337, hy337⟩ : ∃ y_ : List (S45), y_ = (x5_1 ++ [(⟨(rd_T45 l0_3 x11_1).f0, (rd_T45 l0_3 x11_1).f1, (rd_T45 l0_3 x11_1).f2, (rd_T45 l0_3 x11_1).f3⟩ : S45)]) := ⟨_, rfl⟩
        replace H : (tree_Branch_ahead.l0 k1 a1 y337 l0_3 (l0_3.length : Int) (wrap64 (x11_1 + 1))) = some r := by first | (rw [hy337]; with_reducible exact H) | (have H2_ := (Option.bind_some _ _).symm.trans H; rw [hy337]; with_reducible exact H2_) | (have H2_ := (Option.bind_some _ _).symm.trans H; with_reducible exact H2_) | with_reducible exact H | (rw [hy337]; exact H) | exact H
        have Ny337 := Aside0.mk hy337
        clear hy337
        have H' := Aside0.mk H
        clear H
        have p335 : 0 ≤ (x11_1 : Int) := qD
        have q335 : x11_1 < (l0_3.length : Int) := qD
        obtain ⟨ad335, e335, hx335_0, hx335_1, hx335_2, hx335_3⟩ := at_T45 (Kd.C_below HR0_3.out HB.out) x11_1 p335 q335
        cases e335
        replace p335 := eq_true p335
        replace q335 := eq_true q335
        go_wp2_with (first | (refine bx 7 #[.int .i64 0, .int .i64 0, .string (⟨#[]⟩ : ByteArray), .int .i64 0] 45 ?_; intro gb336 hg w10 hbox hb; have n0_ := Aside0.mk (Kd.R_below (Kd.R_elderB (by (with_reducible repeat (first | apply Kd.R_alloc | apply Kd.R_drewN | apply Kd.R_drew)); exact HO_5.out) gb336 (Nat.le_of_eq hg.symm)) hb); have n1_ := kb gb334 hb; have n2_ := bst hb; have n3_ := Aside0.mk (hbox); have n4_ := geS hg; have n5_ := geS hg; have n6_ := neS gb334 hg; have n7_ := neT gb334 hg; clear HO_5; clear BK334; clear HB; have HO_5 := n0_; have BK334 := n1_; have HB := n2_; have BK336 := n3_; have GW336 := n4_; have GE336 := n5_; have NB334_336 := n6_; have NB336_334 := n7_; clear n0_ n1_ n2_ n3_ n4_ n5_ n6_ n7_; clear hb hbox hg; have hnb11 := NB336_334.out; have hnc11 := NB334_336.out; obtain ⟨hcz12_0, hcz12_1, hcz12_2, hcz12_3, hfz12_0, hfz12_1, hfz12_2, hfz12_3⟩ := cells4 BK336.out) | ((with_reducible refine gate_builtin (b := .append) (xs := #[.tmp 19, .tmp 21]) rfl ?_); at_builtin; refine Kd.R_append k45 (w0 := w) w.heap.size rfl (.tmp 19) (.tmp 21) 41 45 (.agg #[(.int .i64 0), (.int .i64 0), (.string ⟨#[]⟩), (.int .i64 0)]) 40 rfl Tryd.underlying41 info45 rfl (by decide) (by omega) u5 x5_1 (⟨(rd_T45 l0_3 x11_1).f0, (rd_T45 l0_3 x11_1).f1, (rd_T45 l0_3 x11_1).f2, (rd_T45 l0_3 x11_1).f3⟩ : S45) [.int .i64 ((rd_T45 l0_3 x11_1).f0), .int .i64 ((rd_T45 l0_3 x11_1).f1), .string ((rd_T45 l0_3 x11_1).f2), .int .i64 ((rd_T45 l0_3 x11_1).f3)] (fun k_ => k_ ≠ gb336) (fun _ => False) rfl (by first | (go_simp; done) | (go_simp; rfl)) ?aP (fun _ hk => hk.elim) ?aF ?aO ?aB ?aS ?aL ?_; (case aP => exact k45_mkM _ _ _ (⟨(rd_T45 l0_3 x11_1).f0, (rd_T45 l0_3 x11_1).f1, (rd_T45 l0_3 x11_1).f2, (rd_T45 l0_3 x11_1).f3⟩ : S45)); (case aB => exact qB); (case aF => exact (fun k_ hk => Kd.freshB (g := gb336) (o := .cells #[.int .i64 ((rd_T45 l0_3 x11_1).f0), .int .i64 ((rd_T45 l0_3 x11_1).f1), .string ((rd_T45 l0_3 x11_1).f2), .int .i64 ((rd_T45 l0_3 x11_1).f3)] 45 (0, 0)) qP k_ hk)); (case aO => exact (by (with_reducible repeat (first | apply Kd.R_alloc | apply Kd.R_drewN | apply Kd.R_drew)); exact Kd.R_mono (Kd.R_far (p := ⟨gb336, 3, none⟩) (Kd.R_far (p := ⟨gb336, 2, none⟩) (Kd.R_far (p := ⟨gb336, 1, none⟩) (Kd.R_far (p := ⟨gb336, 0, none⟩) (Kd.R_mono HO_5.out (fun k_ hk => (⟨hk, hk.2⟩ : _ ∧ k_ ≠ gb336))) (fun _ hk => hk.2) (.int .i64 ((rd_T45 l0_3 x11_1).f0))) (fun _ hk => hk.2) (.int .i64 ((rd_T45 l0_3 x11_1).f1))) (fun _ hk => hk.2) (.string ((rd_T45 l0_3 x11_1).f2))) (fun _ hk => hk.2) (.int .i64 ((rd_T45 l0_3 x11_1).f3))) (fun _ hk => hk.1.2))); (case aS => exact (below_size qB)); (case aL => have := LMc9.out; omega); intro v338 w13 ho hb hg hat; rw [← Ny337.out] at ho; have n0_ := Aside0.mk (blk_grown (g := gb334) (o := .cells #[.int .i64 a0_0, .int .i64 a0_1, .int .i64 a0_2, .slice (some ad335) l0_3.length c0_3] 43 (0, 0)) qK hg (Kd.R_ne HO_5.out BK334.out (by decide))); have n1_ := Aside0.mk (blk_grown (g := gb336) (o := .cells #[.int .i64 ((rd_T45 l0_3 x11_1).f0), .int .i64 ((rd_T45 l0_3 x11_1).f1), .string ((rd_T45 l0_3 x11_1).f2), .int .i64 ((rd_T45 l0_3 x11_1).f3)] 45 (0, 0)) qP hg (Kd.R_away HO_5.out (fun _ hk => hk.2))); have n2_ := Aside0.mk (hb); have n3_ := Aside0.mk (ho); clear BK334; clear BK336; clear HB; clear HO_5; have BK334 := n0_; have BK336 := n1_; have HB := n2_; have HO339 := n3_; clear n0_ n1_ n2_ n3_; clear ho hb hg hat))
        go_roundg k1
        case measure => have := HK1.out; omega
        case rel => exact ⟨(y337), (wrap64 (x11_1 + 1)), (by first | rfl | (simp; done) | (simp [*]; done)), H', ⟨by have := HK1.out; omega⟩, ⟨by (with_reducible repeat (first | apply Kd.R_alloc | apply Kd.R_drewN | apply Kd.R_drew)); exact Kd.R_mono HO339.out (fun _ hk => trivial)⟩, ⟨qK⟩, ⟨qB⟩⟩
       ·rw [if_neg c9] at H
        exact absurd H (by simp)
      ·rw [if_neg c8] at H
       have c8b0 := decide_eq_false c8
       clear c8
       have H' := Aside0.mk H
       clear H
       have p335 : 0 ≤ (x11_1 : Int) := qD
       have q335 : x11_1 < (l0_3.length : Int) := qD
       obtain ⟨ad335, e335, hx335_0, hx335_1, hx335_2, hx335_3⟩ := at_T45 (Kd.C_below HR0_3.out HB.out) x11_1 p335 q335
       cases e335
       replace p335 := eq_true p335
       replace q335 := eq_true q335
       go_wp2_with (first | (refine bx 7 #[.int .i64 0, .int .i64 0, .string (⟨#[]⟩ : ByteArray), .int .i64 0] 45 ?_; intro gb336 hg w14 hbox hb; have n0_ := Aside0.mk (Kd.R_below (Kd.R_elderB (by (with_reducible repeat (first | apply Kd.R_alloc | apply Kd.R_drewN | apply Kd.R_drew)); exact HO_5.out) gb336 (Nat.le_of_eq hg.symm)) hb); have n1_ := kb gb334 hb; have n2_ := bst hb; have n3_ := Aside0.mk (hbox); have n4_ := geS hg; have n5_ := geS hg; have n6_ := neS gb334 hg; have n7_ := neT gb334 hg; clear HO_5; clear BK334; clear HB; have HO_5 := n0_; have BK334 := n1_; have HB := n2_; have BK336 := n3_; have GW336 := n4_; have GE336 := n5_; have NB334_336 := n6_; have NB336_334 := n7_; clear n0_ n1_ n2_ n3_ n4_ n5_ n6_ n7_; clear hb hbox hg; have hnb15 := NB336_334.out; have hnc15 := NB334_336.out; obtain ⟨hcz16_0, hcz16_1, hcz16_2, hcz16_3, hfz16_0, hfz16_1, hfz16_2, hfz16_3⟩ := cells4 BK336.out))
       go_roundg k1
       case measure => have := HK1.out; omega
       case rel => exact ⟨(x5_1), (wrap64 (x11_1 + 1)), (by first | rfl | (simp; done) | (simp [*]; done)), H', ⟨by have := HK1.out; omega⟩, ⟨by (with_reducible repeat (first | apply Kd.R_alloc | apply Kd.R_drewN | apply Kd.R_drew)); exact Kd.R_mono (Kd.R_far (p := ⟨gb336, 3, none⟩) (Kd.R_far (p := ⟨gb336, 2, none⟩) (Kd.R_far (p := ⟨gb336, 1, none⟩) (Kd.R_far (p := ⟨gb336, 0, none⟩) (Kd.R_mono HO_5.out (fun k_ hk => (⟨hk, hk.2⟩ : _ ∧ k_ ≠ gb336))) (fun _ hk => hk.2) (.int .i64 ((rd_T45 l0_3 x11_1).f0))) (fun _ hk => hk.2) (.int .i64 ((rd_T45 l0_3 x11_1).f1))) (fun _ hk => hk.2) (.string ((rd_T45 l0_3 x11_1).f2))) (fun _ hk => hk.2) (.int .i64 ((rd_T45 l0_3 x11_1).f3))) (fun _ hk => trivial)⟩, ⟨qK⟩, ⟨qB⟩⟩
     ·rw [if_neg c7] at H
      exact absurd H (by simp)
    ·rw [if_neg c6] at H
     exact absurd H (by simp)
   ·rw [if_neg c5] at H
    have c5b0 := decide_eq_false c5
    clear c5
    obtain rfl := Option.some.inj H
    go_wp2
    go_ret
    exact ⟨_, qR, by (with_reducible repeat (first | apply Kd.R_alloc | apply Kd.R_drewN | apply Kd.R_drew)); exact HO_5.out, qB⟩
def tree_Input.l0 : Nat → List (S45) → List (S45) → Int → Int → Option (Bool)
 | 0, _, _, _, _ => none
 | k + 1, x0, x1, x12, x13 => if x13 < x12 then (if 0 ≤ x13 then (if x13 < (x0.length : Int) then (if x13 < (x1.length : Int) then (if (!(((rd_T45 x0 x13).f0) == ((rd_T45 x1 x13).f0)) || (!(((rd_T45 x0 x13).f1) == ((rd_T45 x1 x13).f1)) || (!((((rd_T45 x0 x13).f2).toList) == (((rd_T45 x1 x13).f2).toList)) || (!(((rd_T45 x0 x13).f3) == ((rd_T45 x1 x13).f3)))))) = true then (some false) else (tree_Input.l0 k x0 x1 x12 (wrap64 (x13 + 1)))) else (none)) else (none)) else (none)) else (some true)
def tree_Input.f (k : Nat) (l0 : List (S45)) (l1 : List (S45)) : Option (Bool) := if (l0.length : Int) = (l1.length : Int) then (tree_Input.l0 k l0 l1 (l0.length : Int) 0) else (some false)
theorem tree_Input.mono_l : ∀ k, (∀ y0 y1 y2 y3, LeO (tree_Input.l0 k y0 y1 y2 y3) (tree_Input.l0 (k + 1) y0 y1 y2 y3))
 | 0 => fun _ _ _ _ r h => by simp [tree_Input.l0] at h
 | k + 1 => by
  have ih0 := tree_Input.mono_l k
  ·intro y0 y1 y2 y3
   unfold tree_Input.l0
   repeat' first
   | (with_reducible exact ih0 _ _ _ _)
   | (with_reducible exact LeO.refl _)
   | (with_reducible exact LeO.none _)
   | (with_reducible refine LeO.ite ?_ ?_)
   | (with_reducible refine LeO.bind ?_ (fun _ => ?_))
   | exact ih0 _ _ _ _
   | exact LeO.none _
   | refine LeO.ite ?_ ?_
   | refine LeO.bind ?_ (fun _ => ?_)
theorem tree_Input.mono : ∀ a0 a1 k, LeO (tree_Input.f k a0 a1) (tree_Input.f (k + 1) a0 a1) := by
 intro a0 a1 k
 have ih0 := tree_Input.mono_l k
 unfold tree_Input.f
 repeat' first
   | (with_reducible exact ih0 _ _ _ _)
   | (with_reducible exact LeO.refl _)
   | (with_reducible exact LeO.none _)
   | (with_reducible refine LeO.ite ?_ ?_)
   | (with_reducible refine LeO.bind ?_ (fun _ => ?_))
   | exact ih0 _ _ _ _
   | exact LeO.none _
   | refine LeO.ite ?_ ?_
   | refine LeO.bind ?_ (fun _ => ?_)
set_option maxHeartbeats 8000000 in
set_option maxRecDepth 100000 in
theorem tree_Input.calls (k : Nat) (A0 : Option Addr) (c0 : Nat) (l0 : List (S45)) (A1 : Option Addr) (c1 : Nat) (l1 : List (S45)) (r : Bool) (w : World) (hr0 : Kd.C k45 w A0 l0.length l0) (hc0 : l0.length ≤ c0) (hr1 : Kd.C k45 w A1 l1.length l1) (hc1 : l1.length ≤ c1) (h : tree_Input.f k l0 l1 = some r) :
  Calls Tryd.prog 87 #[.slice A0 l0.length c0, .slice A1 l1.length c1] w fun e w' => e = .returned (.bool r) ∧ Drawn0 w w' := by
 have hu45 := Tryd.underlying45
 have HR0 := Aside0.mk hr0
 have HC0 := Aside0.mk hc0
 clear hr0 hc0
 have HR1 := Aside0.mk hr1
 have HC1 := Aside0.mk hc1
 clear hr1 hc1
 have H : (if (l0.length : Int) = (l1.length : Int) then (tree_Input.l0 k l0 l1 (l0.length : Int) 0) else (some false)) = some r := h
 clear h
 by_cases c3 : (l0.length : Int) = (l1.length : Int)
 ·rw [if_pos c3] at H
  have c3b0 := beq_iff_eq.mpr c3
  have c3b1 := bne_eq_false_iff_eq.mpr c3
  have c3b2 : (l0.length == l1.length) = true := by first | simpa using c3 | (simp at c3 ⊢; omega)
  clear c3
  have H' := Aside0.mk H
  clear H
  go_enter Tryd.func87, Tryd.ntmps87
  go_wp2
  repeat (go_quiet (fail); try go_wp2)
  go_loopg [13] k (fun kq v13 w' => ∃ (x13_1 : Int), v13 = .int .i64 x13_1 ∧ Aside0 (tree_Input.l0 kq l0 l1 (l0.length : Int) x13_1 = some r) ∧ Aside0 (kq ≤ k) ∧ Drawn0 w w')
  case atStart => exact ⟨(0), (by first | rfl | (simp; done) | (simp [*]; done)), H', ⟨Nat.le_refl _⟩, by repeat (first | exact Drawn0.refl _ | apply Drawn0.step)⟩
  case round =>
   clear H'
   try clear c1
   try clear p2
   try clear c3
   try clear c3b0
   try clear c3b1
   try clear c3b2
   obtain ⟨x13_1, rfl, HA, HK1, ⟨m1, rfl⟩⟩ := hrel
   cases gk with
   | zero => exact absurd HA.out (by simp [tree_Input.l0])
   | succ k1 =>
    have H := HA.out
    clear HA
    simp only [tree_Input.l0] at H
    by_cases c4 : x13_1 < (l0.length : Int)
    ·rw [if_pos c4] at H
     have c4b0 := decide_eq_true c4
     clear c4
     by_cases c5 : 0 ≤ x13_1
     ·rw [if_pos c5] at H
      have c5b0 := decide_eq_true c5
      clear c5
      by_cases c6 : x13_1 < (l0.length : Int)
      ·rw [if_pos c6] at H
       have c6b0 := decide_eq_true c6
       clear c6
       by_cases c7 : x13_1 < (l1.length : Int)
       ·rw [if_pos c7] at H
        have c7b0 := decide_eq_true c7
        clear c7
        by_cases c8 : (!(((rd_T45 l0 x13_1).f0) == ((rd_T45 l1 x13_1).f0)) || (!(((rd_T45 l0 x13_1).f1) == ((rd_T45 l1 x13_1).f1)) || (!((((rd_T45 l0 x13_1).f2).toList) == (((rd_T45 l1 x13_1).f2).toList)) || (!(((rd_T45 l0 x13_1).f3) == ((rd_T45 l1 x13_1).f3)))))) = true
        ·rw [if_pos c8] at H
         have c8b0 : (!(((rd_T45 l0 x13_1).f0) == ((rd_T45 l1 x13_1).f0)) || (!(((rd_T45 l0 x13_1).f1) == ((rd_T45 l1 x13_1).f1)) || (!((((rd_T45 l0 x13_1).f2).toList) == (((rd_T45 l1 x13_1).f2).toList)) || (!(((rd_T45 l0 x13_1).f3) == ((rd_T45 l1 x13_1).f3)))))) = true := c8
         clear c8
         obtain rfl := Option.some.inj H
         have p340 : 0 ≤ (x13_1 : Int) := qD
         have q340 : x13_1 < (l0.length : Int) := qD
         obtain ⟨ad340, e340, hx340_0, hx340_1, hx340_2, hx340_3⟩ := at_T45 HR0.out x13_1 p340 q340
         cases e340
         replace p340 := eq_true p340
         replace q340 := eq_true q340
         have p341 : 0 ≤ (x13_1 : Int) := qD
         have q341 : x13_1 < (l1.length : Int) := qD
         obtain ⟨ad341, e341, hx341_0, hx341_1, hx341_2, hx341_3⟩ := at_T45 HR1.out x13_1 p341 q341
         cases e341
         replace p341 := eq_true p341
         replace q341 := eq_true q341
         go_wp2
         repeat (go_quiet (fail); try go_wp2)
         go_ret
         exact ⟨by first | rfl | (simp; done) | (simp [*]; done), by repeat (first | exact Drawn0.refl _ | apply Drawn0.step)⟩
        ·rw [if_neg c8] at H
         have c8b0 : (!(((rd_T45 l0 x13_1).f0) == ((rd_T45 l1 x13_1).f0)) || (!(((rd_T45 l0 x13_1).f1) == ((rd_T45 l1 x13_1).f1)) || (!((((rd_T45 l0 x13_1).f2).toList) == (((rd_T45 l1 x13_1).f2).toList)) || (!(((rd_T45 l0 x13_1).f3) == ((rd_T45 l1 x13_1).f3)))))) = false := by simpa using c8
         clear c8
         have H' := Aside0.mk H
         clear H
         have p340 : 0 ≤ (x13_1 : Int) := qD
         have q340 : x13_1 < (l0.length : Int) := qD
         obtain ⟨ad340, e340, hx340_0, hx340_1, hx340_2, hx340_3⟩ := at_T45 HR0.out x13_1 p340 q340
         cases e340
         replace p340 := eq_true p340
         replace q340 := eq_true q340
         have p341 : 0 ≤ (x13_1 : Int) := qD
         have q341 : x13_1 < (l1.length : Int) := qD
         obtain ⟨ad341, e341, hx341_0, hx341_1, hx341_2, hx341_3⟩ := at_T45 HR1.out x13_1 p341 q341
         cases e341
         replace p341 := eq_true p341
         replace q341 := eq_true q341
         go_wp2
         repeat (go_quiet (fail); try go_wp2)
         go_roundg k1
         case measure => have := HK1.out; omega
         case rel => exact ⟨(wrap64 (x13_1 + 1)), (by first | rfl | (simp; done) | (simp [*]; done)), H', ⟨by have := HK1.out; omega⟩, by repeat (first | exact Drawn0.refl _ | apply Drawn0.step)⟩
       ·rw [if_neg c7] at H
        exact absurd H (by simp)
      ·rw [if_neg c6] at H
       exact absurd H (by simp)
     ·rw [if_neg c5] at H
      exact absurd H (by simp)
    ·rw [if_neg c4] at H
     have c4b0 := decide_eq_false c4
     clear c4
     obtain rfl := Option.some.inj H
     go_wp2
     repeat (go_quiet (fail); try go_wp2)
     go_ret
     exact ⟨by first | rfl | (simp; done) | (simp [*]; done), by repeat (first | exact Drawn0.refl _ | apply Drawn0.step)⟩
 ·rw [if_neg c3] at H
  have c3b0 := beq_eq_false_iff_ne.mpr c3
  have c3b1 := bne_iff_ne.mpr c3
  have c3b2 : (l0.length == l1.length) = false := by first | simpa using c3 | (simp at c3 ⊢; omega)
  obtain rfl := Option.some.inj H
  go_enter Tryd.func87, Tryd.ntmps87
  go_wp2
  repeat (go_quiet (fail); try go_wp2)
  go_ret
  exact ⟨by first | rfl | (simp; done) | (simp [*]; done), by repeat (first | exact Drawn0.refl _ | apply Drawn0.step)⟩
end Go.Proofs.YtbngfhlciebeeaaDoor.L
end
section
namespace Go.Proofs.YtbngfhlciebeeaaDoor.L
open Go.RowKit Go.Proofs.YtbngfhlciebeeaaDoorW.PrintWords Go.Proofs.YtbngfhlciebeeaaDoorW.PrintLast Go.Proofs.YtbngfhlciebeeaaDoorW.PrintMore
attribute [local go_sem] max2_int min2_int max_two min_two max_three min_three max_four min_four   -- for this text's walks alone
set_option linter.unusedVariables false
set_option linter.unusedSimpArgs false
def tree_Tree_has.f (l0 : List (S43)) (a1 : Int) : Option (Bool) := if a1 ≥ 0 then (some (decide (a1 < (l0.length : Int)))) else (some false)
set_option maxHeartbeats 8000000 in
set_option maxRecDepth 100000 in
theorem tree_Tree_has.calls (A0 : Option Addr) (c0 : Nat) (l0 : List (S43)) (a1 : Int) (r : Bool) (w : World) (hr0 : Kd.C k43 w A0 l0.length l0) (hc0 : l0.length ≤ c0) (h : tree_Tree_has.f l0 a1 = some r) :
  Calls Tryd.prog 80 #[.slice A0 l0.length c0, .int .i64 a1] w fun e w' => e = .returned (.bool r) ∧ Drawn0 w w' := by
 have HR0 := Aside0.mk hr0
 have HC0 := Aside0.mk hc0
 clear hr0 hc0
 have H : (if a1 ≥ 0 then (some (decide (a1 < (l0.length : Int)))) else (some false)) = some r := h
 clear h
 by_cases c3 : a1 ≥ 0
 ·rw [if_pos c3] at H
  have c3b0 := decide_eq_true c3
  clear c3
  obtain rfl := Option.some.inj H
  go_enter Tryd.func80, Tryd.ntmps80
  go_wp2
  go_ret
  exact ⟨by first | rfl | (simp; done) | (simp [*]; done), by repeat (first | exact Drawn0.refl _ | apply Drawn0.step)⟩
 ·rw [if_neg c3] at H
  have c3b0 := decide_eq_false c3
  clear c3
  obtain rfl := Option.some.inj H
  go_enter Tryd.func80, Tryd.ntmps80
  go_wp2
  go_ret
  exact ⟨by first | rfl | (simp; done) | (simp [*]; done), by repeat (first | exact Drawn0.refl _ | apply Drawn0.step)⟩
end Go.Proofs.YtbngfhlciebeeaaDoor.L
end
