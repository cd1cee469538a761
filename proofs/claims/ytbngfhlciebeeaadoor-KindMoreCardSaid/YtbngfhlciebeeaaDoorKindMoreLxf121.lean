/- Printed and hand-written steps towards the row (KindMore), those that it reaches. -/
import Derived.Test.YtbngfhlciebeeaaDoorKindMoreG4
import Derived.Test.YtbngfhlciebeeaaDoorKindMoreG5
import Derived.Test.YtbngfhlciebeeaaDoorKindMoreG15
import Derived.Test.YtbngfhlciebeeaaDoorKindMoreLxf120
namespace Go.Proofs.YtbngfhlciebeeaaDoor.L
open Go.RowKit Go.Proofs.YtbngfhlciebeeaaDoorW.PrintWords Go.Proofs.YtbngfhlciebeeaaDoorW.PrintLast Go.Proofs.YtbngfhlciebeeaaDoorW.PrintMore
attribute [local go_sem] max2_int min2_int max_two min_two max_three min_three max_four min_four   -- for this text's walks alone
set_option linter.unusedVariables false
set_option linter.unusedSimpArgs false
mutual
def expr_Expr_depths.l0 : Nat → List Int → List (S156) → Int → Int → Option (List Int)
 | 0, _, _, _, _ => none
 | k + 1, x3, x9, x10, x11 => if x11 < x10 then (if 0 ≤ x11 then (if x11 < (x9.length : Int) then (if x11 < (x3.length : Int) then ((some (x3.set (x11 : Int).toNat 1 : List Int)).bind fun y708 => ((expr_one.f ((rd_T156 x9 x11).f0)).bind fun t709 => (if t709 = true then (expr_Expr_depths.j1 k y708 x11 x9 x10 x11 true ((rd_T156 x9 x11).f0) ((rd_T156 x9 x11).f1.f0) ((rd_T156 x9 x11).f1.f1) ((rd_T156 x9 x11).f1.f2) ((rd_T156 x9 x11).f2) ((rd_T156 x9 x11).f3) ((rd_T156 x9 x11).f4)) else ((expr_two.f ((rd_T156 x9 x11).f0)).bind fun t710 => (expr_Expr_depths.j1 k y708 x11 x9 x10 x11 t710 ((rd_T156 x9 x11).f0) ((rd_T156 x9 x11).f1.f0) ((rd_T156 x9 x11).f1.f1) ((rd_T156 x9 x11).f1.f2) ((rd_T156 x9 x11).f2) ((rd_T156 x9 x11).f3) ((rd_T156 x9 x11).f4)))))) else (none)) else (none)) else (none)) else (some x3)
def expr_Expr_depths.j1 : Nat → List Int → Int → List (S156) → Int → Int → Bool → Int → Int → Int → ByteArray → ByteArray → Int → Int → Option (List Int)
 | 0, _, _, _, _, _, _, _, _, _, _, _, _, _ => none
 | k + 1, x3, x4, x9, x10, x11, x26, x708000, x708001, x708002, x708003, x708004, x708005, x708006 => if x26 = true then (if 0 ≤ x708005 then (if x708005 < (x3.length : Int) then (if 0 ≤ x4 then (if x4 < (x3.length : Int) then ((some (x3.set (x4 : Int).toNat (wrap64 (1 + (rd x3 x708005))) : List Int)).bind fun y712 => ((expr_two.f x708000).bind fun t713 => (if t713 = true then (if 0 ≤ x708006 then (if x708006 < (x3.length : Int) then (expr_Expr_depths.l0 k (y712.set (x4 : Int).toNat (mx (rd y712 x4) (wrap64 (1 + (rd y712 x708006))))) x9 x10 (wrap64 (x11 + 1))) else (none)) else (none)) else (expr_Expr_depths.l0 k y712 x9 x10 (wrap64 (x11 + 1)))))) else (none)) else (none)) else (none)) else (none)) else ((expr_two.f x708000).bind fun t717 => (if t717 = true then (if 0 ≤ x4 then (if x4 < (x3.length : Int) then (if 0 ≤ x708006 then (if x708006 < (x3.length : Int) then (expr_Expr_depths.l0 k (x3.set (x4 : Int).toNat (mx (rd x3 x4) (wrap64 (1 + (rd x3 x708006))))) x9 x10 (wrap64 (x11 + 1))) else (none)) else (none)) else (none)) else (none)) else (expr_Expr_depths.l0 k x3 x9 x10 (wrap64 (x11 + 1)))))
end
def expr_Expr_depths.f (k : Nat) (l0 : List (S156)) : Option (List Int) := if 0 ≤ (l0.length : Int) then (if ((l0.length : Int) : Int).toNat ≤ 35184372088832 then (expr_Expr_depths.l0 k (List.replicate ((l0.length : Int) : Int).toNat 0) l0 (l0.length : Int) 0) else (none)) else (none)
def expr_Expr_depths.T9 : Bool × List (List Nat × List Nat) := (true, [([], []), ([], []), ([], []), ([], []), ([2, 3], [2, 3]), ([4], [4]), ([], []), ([], []), ([7], [7]), ([6, 8], [6, 8]), ([9], [9]), ([10], [10]), ([5, 11], [5, 11]), ([0, 1, 0, 1, 2, 3, 4, 5, 6, 7, 8, 9, 10, 11, 12], [0, 1]), ([13, 12, 0, 1, 2, 3, 4, 5, 6, 7, 8, 9, 10, 11, 12], [12, 13])])
def expr_Expr_depths.B9 : List Nat := [0, 0, 0, 0, 12, 28, 0, 0, 128, 448, 960, 1984, 4092, 8191, 16383]
theorem expr_Expr_depths.tab9 : rtab .any (opsOf Tryd.f121 9) = expr_Expr_depths.T9 := by kernel_rfl
theorem expr_Expr_depths.bits9 : waitsOk expr_Expr_depths.T9.2 expr_Expr_depths.B9 = true := by kernel_rfl
set_option maxHeartbeats 8000000 in
set_option maxRecDepth 100000 in
theorem expr_Expr_depths.calls (k : Nat) (A0 : Option Addr) (c0 : Nat) (l0 : List (S156)) (r : List Int) (w : World) (hr0 : Kd.C k156 w A0 l0.length l0) (hc0 : l0.length ≤ c0) (h : expr_Expr_depths.f k l0 = some r) :
  Calls Tryd.prog 121 #[.slice A0 l0.length c0] w fun e w' => ∃ v0_ : Value, e = .returned (v0_) ∧ Kd.R (Kd.int .i64) 3 w' w.heap.size (fun _ => True) v0_ r ∧ Below w.heap.size w w' := by
 have hu156 := Tryd.underlying156
 have HR0 := Aside0.mk hr0
 have HC0 := Aside0.mk hc0
 clear hr0 hc0
 have HB := Aside0.mk (Below.refl w.heap.size w)
 have H : (if 0 ≤ (l0.length : Int) then (if ((l0.length : Int) : Int).toNat ≤ 35184372088832 then (expr_Expr_depths.l0 k (List.replicate ((l0.length : Int) : Int).toNat 0) l0 (l0.length : Int) 0) else (none)) else (none)) = some r := h
 clear h
 by_cases c2 : 0 ≤ (l0.length : Int)
 ·rw [if_pos c2] at H
  have c2b0 := eq_true c2
  have c2b1 := decide_eq_true c2
  clear c2
  by_cases c3 : ((l0.length : Int) : Int).toNat ≤ 35184372088832
  ·rw [if_pos c3] at H
   have c3b0 := eq_true c3
   have c3b1 := decide_eq_true c3
   clear c3
   obtain ⟨y703, hy703⟩ : ∃ y_ : List Int, y_ = (List.replicate ((l0.length : Int) : Int).toNat 0) := ⟨_, rfl⟩
   replace H : (expr_Expr_depths.l0 k y703 l0 (l0.length : Int) 0) = some r := by first | (rw [hy703]; with_reducible exact H) | (have H2_ := (Option.bind_some _ _).symm.trans H; rw [hy703]; with_reducible exact H2_) | (have H2_ := (Option.bind_some _ _).symm.trans H; with_reducible exact H2_) | with_reducible exact H | (rw [hy703]; exact H) | exact H
   have Ny703 := Aside0.mk hy703
   clear hy703
   have H' := Aside0.mk H
   clear H
   go_enter Tryd.func121, Tryd.ntmps121
   go_wp2_with (first | ((with_reducible refine gate_dst (N := 8) rfl ?_); refine Kd.R_make (Kd.int .i64) _ 3 rfl (N := 8) rfl 154 _ _ rfl (l0.length : Int) rfl rfl Tryd.underlying154 (.int .i64 0) 8 info3 rfl (by decide) (by omega) 0 (ok := fun _ => True) (okp := fun _ => True) rfl (fun _ hk => hk) trivial (qD) (Nat.le_trans (Nat.mul_le_mul_right _ (qD : (l0.length : Int).toNat ≤ 35184372088832)) (by omega)) (Below.refl _ _) (Nat.le_refl _) ?_; intro v704 w4 ho5 hb hg_ hnew_; clear hg_ hnew_; (first | rw [← Ny703.out] at ho5 | (simp only [Int.reduceToNat] at ho5; rw [← Ny703.out] at ho5)); have HO705 := Aside0.mk (Kd.R_lower ho5 (below_size qB)); replace HB := bst hb; clear hb ho5))
   go_loopg [11] k (fun kq v11 w' => ∃ (x3_1 : List Int) (x11_1 : Int), v11 = .int .i64 x11_1 ∧ Aside0 (expr_Expr_depths.l0 kq x3_1 l0 (l0.length : Int) x11_1 = some r) ∧ Aside0 (kq ≤ k) ∧ Aside0 (Kd.R (Kd.int .i64) 3 w' w.heap.size (fun _ => True) v704 x3_1) ∧ Aside0 (Below w.heap.size w w'))
   case atStart => exact ⟨(y703), (0), (by first | rfl | (simp; done) | (simp [*]; done)), H', ⟨Nat.le_refl _⟩, ⟨by (with_reducible repeat (first | apply Kd.R_alloc | apply Kd.R_drewN | apply Kd.R_drew)); exact HO705.out⟩, ⟨qB⟩⟩
   case round =>
    clear H'
    try clear c1
    try clear c2
    try clear c2b0
    try clear c2b1
    try clear p2
    try clear c3
    try clear c3b0
    try clear c3b1
    obtain ⟨x3_1, x11_1, rfl, HA, HK1, HO_3, HB⟩ := hrel
    cases gk with
    | zero => exact absurd HA.out (by simp [expr_Expr_depths.l0])
    | succ k1 =>
     have H := HA.out
     clear HA
     simp only [expr_Expr_depths.l0] at H
     by_cases c6 : x11_1 < (l0.length : Int)
     ·rw [if_pos c6] at H
      have c6b0 := decide_eq_true c6
      clear c6
      by_cases c7 : 0 ≤ x11_1
      ·rw [if_pos c7] at H
       have c7b0 := decide_eq_true c7
       clear c7
       by_cases c8 : x11_1 < (l0.length : Int)
       ·rw [if_pos c8] at H
        have c8b0 := decide_eq_true c8
        clear c8
        by_cases c9 : x11_1 < (x3_1.length : Int)
        ·rw [if_pos c9] at H
         have c9b0 := decide_eq_true c9
         clear c9
         obtain ⟨y708, hy708⟩ : ∃ y_ : List Int, y_ = (x3_1.set (x11_1 : Int).toNat 1) := ⟨_, rfl⟩
         replace H : ((expr_one.f ((rd_T156 l0 x11_1).f0)).bind fun t709 => (if t709 = true then (expr_Expr_depths.j1 k1 y708 x11_1 l0 (l0.length : Int) x11_1 true ((rd_T156 l0 x11_1).f0) ((rd_T156 l0 x11_1).f1.f0) ((rd_T156 l0 x11_1).f1.f1) ((rd_T156 l0 x11_1).f1.f2) ((rd_T156 l0 x11_1).f2) ((rd_T156 l0 x11_1).f3) ((rd_T156 l0 x11_1).f4)) else ((expr_two.f ((rd_T156 l0 x11_1).f0)).bind fun t710 => (expr_Expr_depths.j1 k1 y708 x11_1 l0 (l0.length : Int) x11_1 t710 ((rd_T156 l0 x11_1).f0) ((rd_T156 l0 x11_1).f1.f0) ((rd_T156 l0 x11_1).f1.f1) ((rd_T156 l0 x11_1).f1.f2) ((rd_T156 l0 x11_1).f2) ((rd_T156 l0 x11_1).f3) ((rd_T156 l0 x11_1).f4))))) = some r := by first | (rw [hy708]; with_reducible exact H) | (have H2_ := (Option.bind_some _ _).symm.trans H; rw [hy708]; with_reducible exact H2_) | (have H2_ := (Option.bind_some _ _).symm.trans H; with_reducible exact H2_) | with_reducible exact H | (rw [hy708]; exact H) | exact H
         have Ny708 := Aside0.mk hy708
         clear hy708
         have HC11 := Aside0.mk H
         clear H
         have p706 : 0 ≤ (x11_1 : Int) := qD
         have q706 : x11_1 < (l0.length : Int) := qD
         obtain ⟨ad706, e706, hx706_0, hx706_1, hx706_2, hx706_3, hx706_4, hx706_5, hx706_6⟩ := at_T156 (Kd.C_below HR0.out HB.out) x11_1 p706 q706
         cases e706
         replace p706 := eq_true p706
         replace q706 := eq_true q706
         go_upto_region 6 with (first | ((with_reducible refine gd 5 rfl ?_); refine bx 5 #[.int .i64 0, .int .i64 0, .int .i64 0, .string (⟨#[]⟩ : ByteArray), .string (⟨#[]⟩ : ByteArray), .int .i64 0, .int .i64 0] 156 ?_; intro gb707 hg w12 hbox hb; have BK707 := Aside0.mk (hbox); have GW707 := geS hg; have GE707 := geS hg; replace HO_3 := rb HO_3 hb; replace HB := bst hb; clear hb hbox hg; obtain ⟨hcz13_0, hcz13_1, hcz13_2, hcz13_3, hcz13_4, hcz13_5, hcz13_6, hfz13_0, hfz13_1, hfz13_2, hfz13_3, hfz13_4, hfz13_5, hfz13_6⟩ := cells7 BK707.out) | ((with_reducible refine gate_store (t := 156) (p := 5) rfl ?_); refine store_event (t := 156) (p := 5) (v := ?vo_w14) (w1 := (((((((w12.setCell ⟨gb707, 0, none⟩ (.int .i64 ((rd_T156 l0 x11_1).f0))).setCell ⟨gb707, 1, none⟩ (.int .i64 ((rd_T156 l0 x11_1).f1.f0))).setCell ⟨gb707, 2, none⟩ (.int .i64 ((rd_T156 l0 x11_1).f1.f1))).setCell ⟨gb707, 3, none⟩ (.string ((rd_T156 l0 x11_1).f1.f2))).setCell ⟨gb707, 4, none⟩ (.string ((rd_T156 l0 x11_1).f2))).setCell ⟨gb707, 5, none⟩ (.int .i64 ((rd_T156 l0 x11_1).f3))).setCell ⟨gb707, 6, none⟩ (.int .i64 ((rd_T156 l0 x11_1).f4)))) ?hg ?ho ?hn ?hr ?_; (case ho => rfl); (case hg => rfl); (case hn => rfl); (case hr => first | (go_simp; done) | (go_simp; rfl)); intro w14 hw; have n0_ : Aside0 (Kd.R (Kd.int .i64) 3 w14 w.heap.size (fun _ => True) v704 x3_1) := ⟨(by rw [hw]; exact (by (with_reducible repeat (first | apply Kd.R_alloc | apply Kd.R_drewN | apply Kd.R_drew)); exact Kd.R_mono (Kd.R_far (p := ⟨gb707, 6, none⟩) (Kd.R_far (p := ⟨gb707, 5, none⟩) (Kd.R_far (p := ⟨gb707, 4, none⟩) (Kd.R_far (p := ⟨gb707, 3, none⟩) (Kd.R_far (p := ⟨gb707, 2, none⟩) (Kd.R_far (p := ⟨gb707, 1, none⟩) (Kd.R_far (p := ⟨gb707, 0, none⟩) (Kd.R_types HO_3.out BK707.out (by decide)) (fun _ hk => hk.2) (.int .i64 ((rd_T156 l0 x11_1).f0))) (fun _ hk => hk.2) (.int .i64 ((rd_T156 l0 x11_1).f1.f0))) (fun _ hk => hk.2) (.int .i64 ((rd_T156 l0 x11_1).f1.f1))) (fun _ hk => hk.2) (.string ((rd_T156 l0 x11_1).f1.f2))) (fun _ hk => hk.2) (.string ((rd_T156 l0 x11_1).f2))) (fun _ hk => hk.2) (.int .i64 ((rd_T156 l0 x11_1).f3))) (fun _ hk => hk.2) (.int .i64 ((rd_T156 l0 x11_1).f4))) (fun _ hk => trivial)))⟩; have n1_ : Aside0 (w14.heap[gb707]? = some (.cells #[.int .i64 ((rd_T156 l0 x11_1).f0), .int .i64 ((rd_T156 l0 x11_1).f1.f0), .int .i64 ((rd_T156 l0 x11_1).f1.f1), .string ((rd_T156 l0 x11_1).f1.f2), .string ((rd_T156 l0 x11_1).f2), .int .i64 ((rd_T156 l0 x11_1).f3), .int .i64 ((rd_T156 l0 x11_1).f4)] 156 (0, 0))) := ⟨(by rw [hw]; exact qP)⟩; have n2_ : Aside0 (Below w.heap.size w w14) := ⟨(by rw [hw]; exact qB)⟩; clear hw; clear HO_3; clear BK707; clear HB; have HO_3 := n0_; have BK707 := n1_; have HB := n2_; clear n0_ n1_ n2_; have p10 : 0 ≤ (x11_1 : Int) := qD; have q10 : (x11_1 : Int) < ((x3_1.length : Int) : Int) := qD; obtain ⟨go10, co10, eo10, gb10, gl10, cl10, HG10⟩ := Kd.R_form HO_3.out (by omega); (first | cases eo10 | (injection eo10 with ea_ en_ ec_; (first | subst ea_ | (injection ea_ with ea_; subst ea_)); subst ec_; clear en_)); have GB10 := Aside0.mk gb10; have GG10 := Aside0.mk HG10; clear gb10 gl10 HG10; obtain ⟨hx10_0, hf10_0⟩ := Kd.R_celln 0 HO_3.out (x11_1 : Int) p10 q10; replace p10 := eq_true p10; replace q10 := eq_true q10; obtain ⟨hy15_, hz15_⟩ := Kd.R_celln 0 HO_3.out (x11_1 : Int) (qD) (qD); have HP15 := Kd.R_putg HO_3.out (x11_1 : Int) 1) | ((with_reducible refine gate_store (t := 3) (p := 18) rfl ?_); refine store_event (t := 3) (p := 18) (v := ?vo_w16) (w1 := (w14.setCell ⟨go10, (x11_1 : Int).toNat, none⟩ (.int .i64 1))) ?hg ?ho ?hn ?hr ?_; (case ho => rfl); (case hg => rfl); (case hn => rfl); (case hr => first | (go_simp; done) | (go_simp; rfl)); intro w16 hw; have hg : w14.grownBy w16 (some go10) := (by rw [hw]; exact HP15.2); have hp_ : Kd.R (Kd.int .i64) 3 w16 w.heap.size (fun _ => True) (.slice (some ⟨go10, 0, none⟩) x3_1.length co10) y708 := (by rw [hw, Ny708.out]; exact HP15.1); clear HP15; have n0_ := Aside0.mk (hp_); have n1_ := Aside0.mk (blk_grown (g := gb707) (o := .cells #[.int .i64 ((rd_T156 l0 x11_1).f0), .int .i64 ((rd_T156 l0 x11_1).f1.f0), .int .i64 ((rd_T156 l0 x11_1).f1.f1), .string ((rd_T156 l0 x11_1).f1.f2), .string ((rd_T156 l0 x11_1).f2), .int .i64 ((rd_T156 l0 x11_1).f3), .int .i64 ((rd_T156 l0 x11_1).f4)] 156 (0, 0)) qK hg (Kd.R_ne HO_3.out BK707.out (by decide))); have n2_ := Aside0.mk ((by rw [hw]; exact below_set (HB.out) GB10.out : Below w.heap.size w w16)); clear HO_3; clear BK707; clear HB; have HO_3 := n0_; have BK707 := n1_; have HB := n2_; clear n0_ n1_ n2_; clear hg hw hp_))
         (try simp only [Act.put, List.setIfInBounds_toArray, List.set_cons_zero, List.set_cons_succ])
         go_cut [26] (fun v26 wc => ∃ (kq : Nat) (x26_10 : Bool), v26 = .bool x26_10 ∧ Aside0 (expr_Expr_depths.j1 kq y708 x11_1 l0 (l0.length : Int) x11_1 x26_10 ((rd_T156 l0 x11_1).f0) ((rd_T156 l0 x11_1).f1.f0) ((rd_T156 l0 x11_1).f1.f1) ((rd_T156 l0 x11_1).f1.f2) ((rd_T156 l0 x11_1).f2) ((rd_T156 l0 x11_1).f3) ((rd_T156 l0 x11_1).f4) = some r) ∧ Aside0 (kq ≤ k1) ∧ Aside0 (Kd.R (Kd.int .i64) 3 wc w.heap.size (fun _ => True) (.slice (some ⟨go10, 0, none⟩) x3_1.length co10) y708) ∧ Aside0 (wc.heap[gb707]? = some (.cells #[.int .i64 ((rd_T156 l0 x11_1).f0), .int .i64 ((rd_T156 l0 x11_1).f1.f0), .int .i64 ((rd_T156 l0 x11_1).f1.f1), .string ((rd_T156 l0 x11_1).f1.f2), .string ((rd_T156 l0 x11_1).f2), .int .i64 ((rd_T156 l0 x11_1).f3), .int .i64 ((rd_T156 l0 x11_1).f4)] 156 (0, 0))) ∧ Aside0 (Below w.heap.size w wc))
         case first =>
          have H := HC11.out
          clear HC11
          replace H := Option.bind_eq_some_iff.mp H
          obtain ⟨t709, A170, H⟩ := H
          (try dsimp -simprocs only at H)
          have A17 := Aside0.mk A170
          clear A170
          by_cases c18 : t709 = true
          ·subst c18
           rw [if_pos rfl] at H
           have H' := Aside0.mk H
           clear H
           obtain ⟨hcz19_0, hcz19_1, hcz19_2, hcz19_3, hcz19_4, hcz19_5, hcz19_6, hfz19_0, hfz19_1, hfz19_2, hfz19_3, hfz19_4, hfz19_5, hfz19_6⟩ := cells7 BK707.out
           go_wp2_with (first | ((with_reducible refine gc 119 rfl ?_); refine gl (some 21) #[.int .i64 ((rd_T156 l0 x11_1).f0)] Tryd.func119 ?_; (with_reducible refine (expr_one.calls ((rd_T156 l0 x11_1).f0) true _ A17.out).mono ?_); rintro e w' ⟨rfl, ⟨nd, rfl⟩⟩; refine ⟨_, rfl, ?_⟩))
           go_meet
           case rel => exact ⟨_, (true), (by first | rfl | (simp; done) | (simp [*]; done)), H', ⟨by have := HK1.out; first | omega | exact Nat.le_refl _⟩, ⟨by (with_reducible repeat (first | apply Kd.R_alloc | apply Kd.R_drewN | apply Kd.R_drew)); exact HO_3.out⟩, ⟨qK⟩, ⟨qB⟩⟩
          ·replace c18 := Bool.eq_false_iff.mpr c18
           subst c18
           rw [if_neg (show ¬ (false = true) by decide)] at H
           replace H := Option.bind_eq_some_iff.mp H
           obtain ⟨t710, A200, H⟩ := H
           (try dsimp -simprocs only at H)
           have A20 := Aside0.mk A200
           clear A200
           have H' := Aside0.mk H
           clear H
           obtain ⟨hcz21_0, hcz21_1, hcz21_2, hcz21_3, hcz21_4, hcz21_5, hcz21_6, hfz21_0, hfz21_1, hfz21_2, hfz21_3, hfz21_4, hfz21_5, hfz21_6⟩ := cells7 BK707.out
           go_wp2_with (first | ((with_reducible refine gc 119 rfl ?_); refine gl (some 21) #[.int .i64 ((rd_T156 l0 x11_1).f0)] Tryd.func119 ?_; (with_reducible refine (expr_one.calls ((rd_T156 l0 x11_1).f0) false _ A17.out).mono ?_); rintro e w' ⟨rfl, ⟨nd, rfl⟩⟩; refine ⟨_, rfl, ?_⟩) | (go_at_call 120; (with_reducible refine (expr_two.calls ((rd_T156 l0 x11_1).f0) t710 _ A20.out).mono ?_); rintro e w' ⟨rfl, ⟨nd, rfl⟩⟩))
           go_meet
           case rel => exact ⟨_, (t710), (by first | rfl | (simp; done) | (simp [*]; done)), H', ⟨by have := HK1.out; first | omega | exact Nat.le_refl _⟩, ⟨by (with_reducible repeat (first | apply Kd.R_alloc | apply Kd.R_drewN | apply Kd.R_drew)); exact HO_3.out⟩, ⟨qK⟩, ⟨qB⟩⟩
         case rest =>
          clear HC11
          try clear c1
          try clear p1
          try clear q1
          try clear hx1
          try clear hf1
          try clear c2
          try clear c2b0
          try clear c2b1
          try clear p2 p2
          try clear c3
          try clear c3b0
          try clear c3b1
          try clear c6
          try clear c6b0
          try clear c7
          try clear c7b0
          try clear p7
          try clear q7
          try clear hx7
          try clear c8
          try clear c8b0
          try clear c9
          try clear c9b0
          try clear p10 p10
          try clear q10 q10
          try clear hx10
          try clear hf10
          try clear c11
          try clear c12
          try clear c18
          try clear hcz13_0 hcz13_1 hcz13_2 hcz13_3 hcz13_4 hcz13_5 hcz13_6 hfz13_0 hfz13_1 hfz13_2 hfz13_3 hfz13_4 hfz13_5 hfz13_6
          try clear hcz19_0 hcz19_1 hcz19_2 hcz19_3 hcz19_4 hcz19_5 hcz19_6 hfz19_0 hfz19_1 hfz19_2 hfz19_3 hfz19_4 hfz19_5 hfz19_6
          try clear hcz21_0 hcz21_1 hcz21_2 hcz21_3 hcz21_4 hcz21_5 hcz21_6 hfz21_0 hfz21_1 hfz21_2 hfz21_3 hfz21_4 hfz21_5 hfz21_6
          try clear hx10_0
          try clear hx706_0
          try clear hx706_1
          try clear hx706_2
          try clear hx706_3
          try clear hx706_4
          try clear hx706_5
          try clear hx706_6
          try clear p706
          try clear q706
          obtain ⟨kq, x26_10, rfl, HA, HJ10, HO_3, BK707, HB⟩ := hcut
          have hl3_10 := (Kd.R_reads' HO_3.out).1
          rw [hl3_10] at HO_3
          (try simp only [hl3_10])
          (try simp only [hl3_10] at BK707)
          cases kq with
          | zero => exact absurd HA.out (by simp [expr_Expr_depths.j1])
          | succ kj10 =>
           have H := HA.out
           clear HA
           simp only [expr_Expr_depths.j1] at H
           by_cases c22 : x26_10 = true
           ·subst c22
            rw [if_pos rfl] at H
            replace H := iD H
            rcases H with ⟨c23b0, H⟩ | ⟨c23b0, H⟩
            ·by_cases c24 : ((rd_T156 l0 x11_1).f3) < (y708.length : Int)
             ·rw [if_pos c24] at H
              have c24b0 := decide_eq_true c24
              clear c24
              replace H := iD H
              rcases H with ⟨c25b0, H⟩ | ⟨c25b0, H⟩
              ·by_cases c26 : x11_1 < (y708.length : Int)
               ·rw [if_pos c26] at H
                have c26b0 := decide_eq_true c26
                clear c26
                obtain ⟨y712, hy712⟩ : ∃ y_ : List Int, y_ = (y708.set (x11_1 : Int).toNat (wrap64 (1 + (rd y708 ((rd_T156 l0 x11_1).f3))))) := ⟨_, rfl⟩
                replace H : ((expr_two.f ((rd_T156 l0 x11_1).f0)).bind fun t713 => (if t713 = true then (if 0 ≤ ((rd_T156 l0 x11_1).f4) then (if ((rd_T156 l0 x11_1).f4) < (y708.length : Int) then (expr_Expr_depths.l0 kj10 (y712.set (x11_1 : Int).toNat (mx (rd y712 x11_1) (wrap64 (1 + (rd y712 ((rd_T156 l0 x11_1).f4)))))) l0 (l0.length : Int) (wrap64 (x11_1 + 1))) else (none)) else (none)) else (expr_Expr_depths.l0 kj10 y712 l0 (l0.length : Int) (wrap64 (x11_1 + 1))))) = some r := by first | (rw [hy712]; with_reducible exact H) | (have H2_ := (Option.bind_some _ _).symm.trans H; rw [hy712]; with_reducible exact H2_) | (have H2_ := (Option.bind_some _ _).symm.trans H; with_reducible exact H2_) | with_reducible exact H | (rw [hy712]; exact H) | exact H
                have Ny712 := Aside0.mk hy712
                clear hy712
                replace H := Option.bind_eq_some_iff.mp H
                obtain ⟨t713, A280, H⟩ := H
                (try dsimp -simprocs only at H)
                have A28 := Aside0.mk A280
                clear A280
                by_cases c29 : t713 = true
                ·subst c29
                 rw [if_pos rfl] at H
                 replace H := iD H
                 rcases H with ⟨c30b0, H⟩ | ⟨c30b0, H⟩
                 ·by_cases c31 : ((rd_T156 l0 x11_1).f4) < (y708.length : Int)
                  ·rw [if_pos c31] at H
                   have c31b0 := decide_eq_true c31
                   clear c31
                   obtain ⟨ji32, hji32⟩ : ∃ j_ : Int, (mx (rd y712 x11_1) (wrap64 (1 + (rd y712 ((rd_T156 l0 x11_1).f4))))) = j_ := ⟨_, rfl⟩
                   replace H : (expr_Expr_depths.l0 kj10 (y712.set (x11_1 : Int).toNat (ji32)) l0 (l0.length : Int) (wrap64 (x11_1 + 1))) = some r := by first | (rw [hji32] at H; exact H) | (simp only [hji32] at H ⊢; exact H)
                   (try rw [hji32] at A28)
                   have hji32_ : (if (rd y712 x11_1) < (wrap64 (1 + (rd y712 ((rd_T156 l0 x11_1).f4)))) then (wrap64 (1 + (rd y712 ((rd_T156 l0 x11_1).f4)))) else (rd y712 x11_1)) = ji32 := hji32
                   obtain ⟨y716, hy716⟩ : ∃ y_ : List Int, y_ = (y712.set (x11_1 : Int).toNat (ji32)) := ⟨_, rfl⟩
                   replace H : (expr_Expr_depths.l0 kj10 y716 l0 (l0.length : Int) (wrap64 (x11_1 + 1))) = some r := by first | (rw [hy716]; with_reducible exact H) | (have H2_ := (Option.bind_some _ _).symm.trans H; rw [hy716]; with_reducible exact H2_) | (have H2_ := (Option.bind_some _ _).symm.trans H; with_reducible exact H2_) | with_reducible exact H | (rw [hy716]; exact H) | exact H
                   have Ny716 := Aside0.mk hy716
                   clear hy716
                   have H' := Aside0.mk H
                   clear H
                   obtain ⟨hcz34_0, hcz34_1, hcz34_2, hcz34_3, hcz34_4, hcz34_5, hcz34_6, hfz34_0, hfz34_1, hfz34_2, hfz34_3, hfz34_4, hfz34_5, hfz34_6⟩ := cells7 BK707.out
                   have p711 : 0 ≤ (((rd_T156 l0 x11_1).f3) : Int) := qD
                   have q711 : ((rd_T156 l0 x11_1).f3) < (y708.length : Int) := qD
                   obtain ⟨ad711, e711, hx711_0⟩ := Kd.at_int (Kd.R_reads' HO_3.out).2.2 ((rd_T156 l0 x11_1).f3) p711 q711
                   obtain rfl : (⟨go10, 0, none⟩ : Addr) = ad711 := (by injection e711)
                   (first | simp only [add_plain] at hx711_0 | simp only [add_at] at hx711_0 | simp only [Addr.add, Nat.zero_add] at hx711_0 | skip)
                   replace p711 := eq_true p711
                   replace q711 := eq_true q711
                   have p27 : 0 ≤ (x11_1 : Int) := qD
                   have q27 : (x11_1 : Int) < ((y708.length : Int) : Int) := qD
                   obtain ⟨hx27_0, hf27_0⟩ := Kd.R_celln 0 HO_3.out (x11_1 : Int) p27 q27
                   replace p27 := eq_true p27
                   replace q27 := eq_true q27
                   have HP35 := Kd.R_putg HO_3.out (x11_1 : Int) (wrap64 (1 + (rd y708 ((rd_T156 l0 x11_1).f3))))
                   try go_wp2_with (first | ((with_reducible refine gate_store (t := 3) (p := 35) rfl ?_); refine store_event (t := 3) (p := 35) (v := ?vo_w36) (w1 := (wc.setCell ⟨go10, (x11_1 : Int).toNat, none⟩ (.int .i64 (wrap64 (1 + (rd y708 ((rd_T156 l0 x11_1).f3))))))) ?hg ?ho ?hn ?hr ?_; (case ho => rfl); (case hg => rfl); (case hn => rfl); (case hr => first | (go_simp; done) | (go_simp; rfl)); intro w36 hw; have hg : wc.grownBy w36 (some go10) := (by rw [hw]; exact HP35.2); have hp_ : Kd.R (Kd.int .i64) 3 w36 w.heap.size (fun _ => True) (.slice (some ⟨go10, 0, none⟩) y708.length co10) y712 := (by rw [hw, Ny712.out]; exact HP35.1); clear HP35; have n0_ := Aside0.mk (hp_); have n1_ := Aside0.mk (blk_grown (g := gb707) (o := .cells #[.int .i64 ((rd_T156 l0 x11_1).f0), .int .i64 ((rd_T156 l0 x11_1).f1.f0), .int .i64 ((rd_T156 l0 x11_1).f1.f1), .string ((rd_T156 l0 x11_1).f1.f2), .string ((rd_T156 l0 x11_1).f2), .int .i64 ((rd_T156 l0 x11_1).f3), .int .i64 ((rd_T156 l0 x11_1).f4)] 156 (0, 0)) qK hg (Kd.R_ne HO_3.out BK707.out (by decide))); have n2_ := Aside0.mk ((by rw [hw]; exact below_set (HB.out) GB10.out : Below w.heap.size w w36)); clear HO_3; clear BK707; clear HB; have HO_3 := n0_; have BK707 := n1_; have HB := n2_; clear n0_ n1_ n2_; clear hg hw hp_; obtain ⟨hcz37_0, hcz37_1, hcz37_2, hcz37_3, hcz37_4, hcz37_5, hcz37_6, hfz37_0, hfz37_1, hfz37_2, hfz37_3, hfz37_4, hfz37_5, hfz37_6⟩ := cells7 BK707.out) | ((with_reducible refine gc 120 rfl ?_); refine gl (some 38) #[.int .i64 ((rd_T156 l0 x11_1).f0)] Tryd.func120 ?_; (with_reducible refine (expr_two.calls ((rd_T156 l0 x11_1).f0) true _ A28.out).mono ?_); rintro e w' ⟨rfl, ⟨nd, rfl⟩⟩; refine ⟨_, rfl, ?_⟩; (try (rw [drewN_self w36]; generalize hq_ : World.drewN w36 _ = w36; have n0_ : Aside0 (Kd.R (Kd.int .i64) 3 w36 w.heap.size (fun _ => True) (.slice (some ⟨go10, 0, none⟩) y708.length co10) y712) := ⟨by rw [← hq_]; exact (by (with_reducible repeat (first | apply Kd.R_alloc | apply Kd.R_drewN | apply Kd.R_drew)); exact HO_3.out)⟩; have n1_ : Aside0 (w36.heap[gb707]? = some (.cells #[.int .i64 ((rd_T156 l0 x11_1).f0), .int .i64 ((rd_T156 l0 x11_1).f1.f0), .int .i64 ((rd_T156 l0 x11_1).f1.f1), .string ((rd_T156 l0 x11_1).f1.f2), .string ((rd_T156 l0 x11_1).f2), .int .i64 ((rd_T156 l0 x11_1).f3), .int .i64 ((rd_T156 l0 x11_1).f4)] 156 (0, 0))) := ⟨by rw [← hq_]; exact qK⟩; have n2_ : Aside0 (Below w.heap.size w w36) := ⟨by rw [← hq_]; exact qB⟩; clear HO_3 BK707 HB hq_; have HO_3 := n0_; have BK707 := n1_; have HB := n2_; clear n0_ n1_ n2_))))
                   have n0_ := Aside0.mk (Kd.R_drew HO_3.out)
                   have n1_ := Aside0.mk (blk_drew BK707.out)
                   have n2_ := Aside0.mk (below_drew1 HB.out)
                   clear HO_3
                   clear BK707
                   clear HB
                   have HO_3 := n0_
                   have BK707 := n1_
                   have HB := n2_
                   clear n0_ n1_ n2_
                   have p714 : 0 ≤ (x11_1 : Int) := qD
                   have q714 : x11_1 < (y712.length : Int) := (by have h_ : (x11_1 : Int) < ((y708.length : Int) : Int) := qD; first | (have e_ := (Kd.R_reads' HO_3.out).1; omega) | simpa only [Ny712.out, List.length_set] using h_)
                   have ql714 : ((x11_1 : Int) < ((y708.length : Int) : Int)) = True := eq_true (qD)
                   obtain ⟨ad714, e714, hx714_0⟩ := Kd.at_int (Kd.R_reads' HO_3.out).2.2 x11_1 p714 q714
                   obtain rfl : (⟨go10, 0, none⟩ : Addr) = ad714 := (by injection e714)
                   (first | simp only [add_plain] at hx714_0 | simp only [add_at] at hx714_0 | simp only [Addr.add, Nat.zero_add] at hx714_0 | skip)
                   replace p714 := eq_true p714
                   replace q714 := eq_true q714
                   have p715 : 0 ≤ (((rd_T156 l0 x11_1).f4) : Int) := qD
                   have q715 : ((rd_T156 l0 x11_1).f4) < (y712.length : Int) := (by have h_ : (((rd_T156 l0 x11_1).f4) : Int) < ((y708.length : Int) : Int) := qD; first | (have e_ := (Kd.R_reads' HO_3.out).1; omega) | simpa only [Ny712.out, List.length_set] using h_)
                   have ql715 : ((((rd_T156 l0 x11_1).f4) : Int) < ((y708.length : Int) : Int)) = True := eq_true (qD)
                   obtain ⟨ad715, e715, hx715_0⟩ := Kd.at_int (Kd.R_reads' HO_3.out).2.2 ((rd_T156 l0 x11_1).f4) p715 q715
                   obtain rfl : (⟨go10, 0, none⟩ : Addr) = ad715 := (by injection e715)
                   (first | simp only [add_plain] at hx715_0 | simp only [add_at] at hx715_0 | simp only [Addr.add, Nat.zero_add] at hx715_0 | skip)
                   replace p715 := eq_true p715
                   replace q715 := eq_true q715
                   have p33 : 0 ≤ (x11_1 : Int) := qD
                   have q33 : (x11_1 : Int) < ((y708.length : Int) : Int) := qD
                   obtain ⟨hx33_0, hf33_0⟩ := Kd.R_celln 0 HO_3.out (x11_1 : Int) p33 q33
                   replace p33 := eq_true p33
                   replace q33 := eq_true q33
                   have HP39 := Kd.R_putn HO_3.out (x11_1 : Int) ji32
                   rw [← Ny716.out] at HP39
                   have HQ39 := Aside0.mk HP39
                   clear HP39
                   refine start_ (n := 15) (S := fun w' => w'.cell? ⟨gb707, 0, none⟩ = some (.int .i64 ((rd_T156 l0 x11_1).f0)) ∧ w'.cell? ⟨gb707, 1, none⟩ = some (.int .i64 ((rd_T156 l0 x11_1).f1.f0)) ∧ w'.cell? ⟨gb707, 2, none⟩ = some (.int .i64 ((rd_T156 l0 x11_1).f1.f1)) ∧ w'.cell? ⟨gb707, 3, none⟩ = some (.string ((rd_T156 l0 x11_1).f1.f2)) ∧ w'.cell? ⟨gb707, 4, none⟩ = some (.string ((rd_T156 l0 x11_1).f2)) ∧ w'.cell? ⟨gb707, 5, none⟩ = some (.int .i64 ((rd_T156 l0 x11_1).f3)) ∧ w'.cell? ⟨gb707, 6, none⟩ = some (.int .i64 ((rd_T156 l0 x11_1).f4)) ∧ w'.cell? ⟨go10, (x11_1).toNat, none⟩ = some (.int .i64 (rd y712 x11_1)) ∧ w'.cell? ⟨go10, (((rd_T156 l0 x11_1).f4)).toNat, none⟩ = some (.int .i64 (rd y712 ((rd_T156 l0 x11_1).f4)))) (ds := [14]) _ (by kernel_rfl) rfl (fls 15) ⟨(blk_cell BK707.out 0).trans rfl, (blk_cell BK707.out 1).trans rfl, (blk_cell BK707.out 2).trans rfl, (blk_cell BK707.out 3).trans rfl, (blk_cell BK707.out 4).trans rfl, (blk_cell BK707.out 5).trans rfl, (blk_cell BK707.out 6).trans rfl, hx714_0, hx715_0⟩ (fun hHeld => ?_); refine with_tabW expr_Expr_depths.tab9 expr_Expr_depths.bits9 (fun HT_ HW_ => ?_)
                   generalize w36.drew = w38 at HO_3 BK707 HB HQ39 hf33_0 hx33_0 hx714_0 hx715_0 hHeld ⊢
                   refine pu 0 39 ?_; refine pu 1 40 ?_
                   refine pu 2 41 ?_; refine pu 3 42 ?_
                   refine pu 4 43 ?_; refine pu 6 45 ?_
                   refine pu 7 46 ?_; refine tk 5 44 ?_
                   refine tk 8 47 ?_; refine pu 9 48 ?_
                   refine tk 10 49 ?_; refine pu 11 50 ?_
                   refine pu 12 51 ?_; refine pu 13 52 ?_
                   refine last_ (i := 14) (N := none) #[true, true, true, true, true, true, true, true, true, true, true, true, true, true, true] rfl rfl (one_of HT_.out (by kernel_rfl)) (by decide) (fun K hK => ?_)
                   refine skip_ (w1 := ?_) (by rfl) rfl ?_ ?_
                   rotate_left
                   ·go_simp
                    rfl
                   refine hK.out _ _ ?_
                   clear hK K
                   refine done_ (done_of HT_.out (by kernel_rfl)) ?_
                   try go_wp2
                   (try simp only [← hl3_10])
                   go_roundg kj10
                   case measure => have := HK1.out; have := HJ10.out; omega
                   case rel => exact ⟨(y716), (wrap64 (x11_1 + 1)), (by first | rfl | (simp; done) | (simp [*]; done)), H', ⟨by have := HK1.out; have := HJ10.out; omega⟩, ⟨by (try simp only [hl3_10]); (with_reducible repeat (first | apply Kd.R_alloc | apply Kd.R_drewN | apply Kd.R_drew)); exact HQ39.out⟩, ⟨qB⟩⟩
                  ·rw [if_neg c31] at H
                   exact absurd H (by simp)
                 ·exact absurd H (by simp)
                ·replace c29 := Bool.eq_false_iff.mpr c29
                 subst c29
                 rw [if_neg (show ¬ (false = true) by decide)] at H
                 have H' := Aside0.mk H
                 clear H
                 obtain ⟨hcz40_0, hcz40_1, hcz40_2, hcz40_3, hcz40_4, hcz40_5, hcz40_6, hfz40_0, hfz40_1, hfz40_2, hfz40_3, hfz40_4, hfz40_5, hfz40_6⟩ := cells7 BK707.out
                 have p711 : 0 ≤ (((rd_T156 l0 x11_1).f3) : Int) := qD
                 have q711 : ((rd_T156 l0 x11_1).f3) < (y708.length : Int) := qD
                 obtain ⟨ad711, e711, hx711_0⟩ := Kd.at_int (Kd.R_reads' HO_3.out).2.2 ((rd_T156 l0 x11_1).f3) p711 q711
                 obtain rfl : (⟨go10, 0, none⟩ : Addr) = ad711 := (by injection e711)
                 (first | simp only [add_plain] at hx711_0 | simp only [add_at] at hx711_0 | simp only [Addr.add, Nat.zero_add] at hx711_0 | skip)
                 replace p711 := eq_true p711
                 replace q711 := eq_true q711
                 have p27 : 0 ≤ (x11_1 : Int) := qD
                 have q27 : (x11_1 : Int) < ((y708.length : Int) : Int) := qD
                 obtain ⟨hx27_0, hf27_0⟩ := Kd.R_celln 0 HO_3.out (x11_1 : Int) p27 q27
                 replace p27 := eq_true p27
                 replace q27 := eq_true q27
                 have HP41 := Kd.R_putg HO_3.out (x11_1 : Int) (wrap64 (1 + (rd y708 ((rd_T156 l0 x11_1).f3))))
                 go_wp2_with (first | ((with_reducible refine gate_store (t := 3) (p := 35) rfl ?_); refine store_event (t := 3) (p := 35) (v := ?vo_w42) (w1 := (wc.setCell ⟨go10, (x11_1 : Int).toNat, none⟩ (.int .i64 (wrap64 (1 + (rd y708 ((rd_T156 l0 x11_1).f3))))))) ?hg ?ho ?hn ?hr ?_; (case ho => rfl); (case hg => rfl); (case hn => rfl); (case hr => first | (go_simp; done) | (go_simp; rfl)); intro w42 hw; have hg : wc.grownBy w42 (some go10) := (by rw [hw]; exact HP41.2); have hp_ : Kd.R (Kd.int .i64) 3 w42 w.heap.size (fun _ => True) (.slice (some ⟨go10, 0, none⟩) y708.length co10) y712 := (by rw [hw, Ny712.out]; exact HP41.1); clear HP41; have n0_ := Aside0.mk (hp_); have n1_ := Aside0.mk (blk_grown (g := gb707) (o := .cells #[.int .i64 ((rd_T156 l0 x11_1).f0), .int .i64 ((rd_T156 l0 x11_1).f1.f0), .int .i64 ((rd_T156 l0 x11_1).f1.f1), .string ((rd_T156 l0 x11_1).f1.f2), .string ((rd_T156 l0 x11_1).f2), .int .i64 ((rd_T156 l0 x11_1).f3), .int .i64 ((rd_T156 l0 x11_1).f4)] 156 (0, 0)) qK hg (Kd.R_ne HO_3.out BK707.out (by decide))); have n2_ := Aside0.mk ((by rw [hw]; exact below_set (HB.out) GB10.out : Below w.heap.size w w42)); clear HO_3; clear BK707; clear HB; have HO_3 := n0_; have BK707 := n1_; have HB := n2_; clear n0_ n1_ n2_; clear hg hw hp_; obtain ⟨hcz43_0, hcz43_1, hcz43_2, hcz43_3, hcz43_4, hcz43_5, hcz43_6, hfz43_0, hfz43_1, hfz43_2, hfz43_3, hfz43_4, hfz43_5, hfz43_6⟩ := cells7 BK707.out) | ((with_reducible refine gc 120 rfl ?_); refine gl (some 38) #[.int .i64 ((rd_T156 l0 x11_1).f0)] Tryd.func120 ?_; (with_reducible refine (expr_two.calls ((rd_T156 l0 x11_1).f0) false _ A28.out).mono ?_); rintro e w' ⟨rfl, ⟨nd, rfl⟩⟩; refine ⟨_, rfl, ?_⟩))
                 (try simp only [← hl3_10])
                 go_roundg kj10
                 case measure => have := HK1.out; have := HJ10.out; omega
                 case rel => exact ⟨(y712), (wrap64 (x11_1 + 1)), (by first | rfl | (simp; done) | (simp [*]; done)), H', ⟨by have := HK1.out; have := HJ10.out; omega⟩, ⟨by (try simp only [hl3_10]); (with_reducible repeat (first | apply Kd.R_alloc | apply Kd.R_drewN | apply Kd.R_drew)); exact HO_3.out⟩, ⟨qB⟩⟩
               ·rw [if_neg c26] at H
                exact absurd H (by simp)
              ·exact absurd H (by simp)
             ·rw [if_neg c24] at H
              exact absurd H (by simp)
            ·exact absurd H (by simp)
           ·replace c22 := Bool.eq_false_iff.mpr c22
            subst c22
            rw [if_neg (show ¬ (false = true) by decide)] at H
            replace H := Option.bind_eq_some_iff.mp H
            obtain ⟨t717, A440, H⟩ := H
            (try dsimp -simprocs only at H)
            have A44 := Aside0.mk A440
            clear A440
            by_cases c45 : t717 = true
            ·subst c45
             rw [if_pos rfl] at H
             replace H := iD H
             rcases H with ⟨c46b0, H⟩ | ⟨c46b0, H⟩
             ·by_cases c47 : x11_1 < (y708.length : Int)
              ·rw [if_pos c47] at H
               have c47b0 := decide_eq_true c47
               clear c47
               replace H := iD H
               rcases H with ⟨c48b0, H⟩ | ⟨c48b0, H⟩
               ·by_cases c49 : ((rd_T156 l0 x11_1).f4) < (y708.length : Int)
                ·rw [if_pos c49] at H
                 have c49b0 := decide_eq_true c49
                 clear c49
                 obtain ⟨ji50, hji50⟩ : ∃ j_ : Int, (mx (rd y708 x11_1) (wrap64 (1 + (rd y708 ((rd_T156 l0 x11_1).f4))))) = j_ := ⟨_, rfl⟩
                 replace H : (expr_Expr_depths.l0 kj10 (y708.set (x11_1 : Int).toNat (ji50)) l0 (l0.length : Int) (wrap64 (x11_1 + 1))) = some r := by first | (rw [hji50] at H; exact H) | (simp only [hji50] at H ⊢; exact H)
                 (try rw [hji50] at A44)
                 have hji50_ : (if (rd y708 x11_1) < (wrap64 (1 + (rd y708 ((rd_T156 l0 x11_1).f4)))) then (wrap64 (1 + (rd y708 ((rd_T156 l0 x11_1).f4)))) else (rd y708 x11_1)) = ji50 := hji50
                 obtain ⟨y720, hy720⟩ : ∃ y_ : List Int, y_ = (y708.set (x11_1 : Int).toNat (ji50)) := ⟨_, rfl⟩
                 replace H : (expr_Expr_depths.l0 kj10 y720 l0 (l0.length : Int) (wrap64 (x11_1 + 1))) = some r := by first | (rw [hy720]; with_reducible exact H) | (have H2_ := (Option.bind_some _ _).symm.trans H; rw [hy720]; with_reducible exact H2_) | (have H2_ := (Option.bind_some _ _).symm.trans H; with_reducible exact H2_) | with_reducible exact H | (rw [hy720]; exact H) | exact H
                 have Ny720 := Aside0.mk hy720
                 clear hy720
                 have H' := Aside0.mk H
                 clear H
                 obtain ⟨hcz52_0, hcz52_1, hcz52_2, hcz52_3, hcz52_4, hcz52_5, hcz52_6, hfz52_0, hfz52_1, hfz52_2, hfz52_3, hfz52_4, hfz52_5, hfz52_6⟩ := cells7 BK707.out
                 try go_wp2_with (first | ((with_reducible refine gc 120 rfl ?_); refine gl (some 38) #[.int .i64 ((rd_T156 l0 x11_1).f0)] Tryd.func120 ?_; (with_reducible refine (expr_two.calls ((rd_T156 l0 x11_1).f0) true _ A44.out).mono ?_); rintro e w' ⟨rfl, ⟨nd, rfl⟩⟩; refine ⟨_, rfl, ?_⟩; (try (rw [drewN_self wc]; generalize hq_ : World.drewN wc _ = wc; have n0_ : Aside0 (Kd.R (Kd.int .i64) 3 wc w.heap.size (fun _ => True) (.slice (some ⟨go10, 0, none⟩) y708.length co10) y708) := ⟨by rw [← hq_]; exact (by (with_reducible repeat (first | apply Kd.R_alloc | apply Kd.R_drewN | apply Kd.R_drew)); exact HO_3.out)⟩; have n1_ : Aside0 (wc.heap[gb707]? = some (.cells #[.int .i64 ((rd_T156 l0 x11_1).f0), .int .i64 ((rd_T156 l0 x11_1).f1.f0), .int .i64 ((rd_T156 l0 x11_1).f1.f1), .string ((rd_T156 l0 x11_1).f1.f2), .string ((rd_T156 l0 x11_1).f2), .int .i64 ((rd_T156 l0 x11_1).f3), .int .i64 ((rd_T156 l0 x11_1).f4)] 156 (0, 0))) := ⟨by rw [← hq_]; exact qK⟩; have n2_ : Aside0 (Below w.heap.size w wc) := ⟨by rw [← hq_]; exact qB⟩; clear HO_3 BK707 HB hq_; have HO_3 := n0_; have BK707 := n1_; have HB := n2_; clear n0_ n1_ n2_))))
                 replace BK707 := Aside0.mk (blk_drew BK707.out)
                 replace HO_3 := Aside0.mk (Kd.R_drew HO_3.out)
                 replace HB := Aside0.mk (below_drew1 HB.out)
                 have p718 : 0 ≤ (x11_1 : Int) := qD
                 have q718 : x11_1 < (y708.length : Int) := qD
                 obtain ⟨ad718, e718, hx718_0⟩ := Kd.at_int (Kd.R_reads' HO_3.out).2.2 x11_1 p718 q718
                 obtain rfl : (⟨go10, 0, none⟩ : Addr) = ad718 := (by injection e718)
                 (first | simp only [add_plain] at hx718_0 | simp only [add_at] at hx718_0 | simp only [Addr.add, Nat.zero_add] at hx718_0 | skip)
                 replace p718 := eq_true p718
                 replace q718 := eq_true q718
                 have p719 : 0 ≤ (((rd_T156 l0 x11_1).f4) : Int) := qD
                 have q719 : ((rd_T156 l0 x11_1).f4) < (y708.length : Int) := qD
                 obtain ⟨ad719, e719, hx719_0⟩ := Kd.at_int (Kd.R_reads' HO_3.out).2.2 ((rd_T156 l0 x11_1).f4) p719 q719
                 obtain rfl : (⟨go10, 0, none⟩ : Addr) = ad719 := (by injection e719)
                 (first | simp only [add_plain] at hx719_0 | simp only [add_at] at hx719_0 | simp only [Addr.add, Nat.zero_add] at hx719_0 | skip)
                 replace p719 := eq_true p719
                 replace q719 := eq_true q719
                 have p51 : 0 ≤ (x11_1 : Int) := qD
                 have q51 : (x11_1 : Int) < ((y708.length : Int) : Int) := qD
                 obtain ⟨hx51_0, hf51_0⟩ := Kd.R_celln 0 HO_3.out (x11_1 : Int) p51 q51
                 replace p51 := eq_true p51
                 replace q51 := eq_true q51
                 have HP54 := Kd.R_putn HO_3.out (x11_1 : Int) ji50
                 rw [← Ny720.out] at HP54
                 have HQ54 := Aside0.mk HP54
                 clear HP54
                 refine start_ (n := 15) (S := fun w' => w'.cell? ⟨gb707, 0, none⟩ = some (.int .i64 ((rd_T156 l0 x11_1).f0)) ∧ w'.cell? ⟨gb707, 1, none⟩ = some (.int .i64 ((rd_T156 l0 x11_1).f1.f0)) ∧ w'.cell? ⟨gb707, 2, none⟩ = some (.int .i64 ((rd_T156 l0 x11_1).f1.f1)) ∧ w'.cell? ⟨gb707, 3, none⟩ = some (.string ((rd_T156 l0 x11_1).f1.f2)) ∧ w'.cell? ⟨gb707, 4, none⟩ = some (.string ((rd_T156 l0 x11_1).f2)) ∧ w'.cell? ⟨gb707, 5, none⟩ = some (.int .i64 ((rd_T156 l0 x11_1).f3)) ∧ w'.cell? ⟨gb707, 6, none⟩ = some (.int .i64 ((rd_T156 l0 x11_1).f4)) ∧ w'.cell? ⟨go10, (x11_1).toNat, none⟩ = some (.int .i64 (rd y708 x11_1)) ∧ w'.cell? ⟨go10, (((rd_T156 l0 x11_1).f4)).toNat, none⟩ = some (.int .i64 (rd y708 ((rd_T156 l0 x11_1).f4)))) (ds := [14]) _ (by kernel_rfl) rfl (fls 15) ⟨(blk_cell BK707.out 0).trans rfl, (blk_cell BK707.out 1).trans rfl, (blk_cell BK707.out 2).trans rfl, (blk_cell BK707.out 3).trans rfl, (blk_cell BK707.out 4).trans rfl, (blk_cell BK707.out 5).trans rfl, (blk_cell BK707.out 6).trans rfl, hx718_0, hx719_0⟩ (fun hHeld => ?_); refine with_tabW expr_Expr_depths.tab9 expr_Expr_depths.bits9 (fun HT_ HW_ => ?_)
                 generalize wc.drew = w53 at HO_3 BK707 HB HQ54 hf51_0 hx51_0 hx718_0 hx719_0 hHeld ⊢
                 refine pu 0 39 ?_; refine pu 1 40 ?_
                 refine pu 2 41 ?_; refine pu 3 42 ?_
                 refine pu 4 43 ?_; refine pu 6 45 ?_
                 refine pu 7 46 ?_; refine tk 5 44 ?_
                 refine tk 8 47 ?_; refine pu 9 48 ?_
                 refine tk 10 49 ?_; refine pu 11 50 ?_
                 refine pu 12 51 ?_; refine pu 13 52 ?_
                 refine last_ (i := 14) (N := none) #[true, true, true, true, true, true, true, true, true, true, true, true, true, true, true] rfl rfl (one_of HT_.out (by kernel_rfl)) (by decide) (fun K hK => ?_)
                 refine skip_ (w1 := ?_) (by rfl) rfl ?_ ?_
                 rotate_left
                 ·go_simp
                  rfl
                 refine hK.out _ _ ?_
                 clear hK K
                 refine done_ (done_of HT_.out (by kernel_rfl)) ?_
                 try go_wp2
                 (try simp only [← hl3_10])
                 go_roundg kj10
                 case measure => have := HK1.out; have := HJ10.out; omega
                 case rel => exact ⟨(y720), (wrap64 (x11_1 + 1)), (by first | rfl | (simp; done) | (simp [*]; done)), H', ⟨by have := HK1.out; have := HJ10.out; omega⟩, ⟨by (try simp only [hl3_10]); (with_reducible repeat (first | apply Kd.R_alloc | apply Kd.R_drewN | apply Kd.R_drew)); exact HQ54.out⟩, ⟨qB⟩⟩
                ·rw [if_neg c49] at H
                 exact absurd H (by simp)
               ·exact absurd H (by simp)
              ·rw [if_neg c47] at H
               exact absurd H (by simp)
             ·exact absurd H (by simp)
            ·replace c45 := Bool.eq_false_iff.mpr c45
             subst c45
             rw [if_neg (show ¬ (false = true) by decide)] at H
             have H' := Aside0.mk H
             clear H
             obtain ⟨hcz55_0, hcz55_1, hcz55_2, hcz55_3, hcz55_4, hcz55_5, hcz55_6, hfz55_0, hfz55_1, hfz55_2, hfz55_3, hfz55_4, hfz55_5, hfz55_6⟩ := cells7 BK707.out
             go_wp2_with (first | ((with_reducible refine gc 120 rfl ?_); refine gl (some 38) #[.int .i64 ((rd_T156 l0 x11_1).f0)] Tryd.func120 ?_; (with_reducible refine (expr_two.calls ((rd_T156 l0 x11_1).f0) false _ A44.out).mono ?_); rintro e w' ⟨rfl, ⟨nd, rfl⟩⟩; refine ⟨_, rfl, ?_⟩))
             (try simp only [← hl3_10])
             go_roundg kj10
             case measure => have := HK1.out; have := HJ10.out; omega
             case rel => exact ⟨(y708), (wrap64 (x11_1 + 1)), (by first | rfl | (simp; done) | (simp [*]; done)), H', ⟨by have := HK1.out; have := HJ10.out; omega⟩, ⟨by (try simp only [hl3_10]); (with_reducible repeat (first | apply Kd.R_alloc | apply Kd.R_drewN | apply Kd.R_drew)); exact HO_3.out⟩, ⟨qB⟩⟩
        ·rw [if_neg c9] at H
         exact absurd H (by simp)
       ·rw [if_neg c8] at H
        exact absurd H (by simp)
      ·rw [if_neg c7] at H
       exact absurd H (by simp)
     ·rw [if_neg c6] at H
      have c6b0 := decide_eq_false c6
      clear c6
      obtain rfl := Option.some.inj H
      go_wp2
      go_ret
      exact ⟨_, qR, by (with_reducible repeat (first | apply Kd.R_alloc | apply Kd.R_drewN | apply Kd.R_drew)); exact HO_3.out, qB⟩
  ·rw [if_neg c3] at H
   exact absurd H (by simp)
 ·rw [if_neg c2] at H
  exact absurd H (by simp)
end Go.Proofs.YtbngfhlciebeeaaDoor.L
