/- Printed and hand-written steps towards the row (KindMore), those that it reaches. -/
import Derived.Test.YtbngfhlciebeeaaDoorKindMoreG4
import Derived.Test.YtbngfhlciebeeaaDoorKindMoreG5
import Derived.Test.YtbngfhlciebeeaaDoorKindMoreG21
import Derived.Test.YtbngfhlciebeeaaDoorKindMoreLxf91
section
namespace Go.Proofs.YtbngfhlciebeeaaDoor.L
open Go.RowKit Go.Proofs.YtbngfhlciebeeaaDoorW.PrintWords Go.Proofs.YtbngfhlciebeeaaDoorW.PrintLast Go.Proofs.YtbngfhlciebeeaaDoorW.PrintMore
attribute [local go_sem] max2_int min2_int max_two min_two max_three min_three max_four min_four   -- for this text's walks alone
set_option linter.unusedVariables false
set_option linter.unusedSimpArgs false
def kind_Of.l0 : Nat → List (S156) → List Int → List (S156) → Int → Int → List (S118) → List ByteArray → Option (Int × Int)
 | 0, _, _, _, _, _, _, _ => none
 | k + 1, x0, x6, x17, x18, x19, x804000, x804001 => if x19 < x18 then (if 0 ≤ x19 then (if x19 < (x17.length : Int) then ((kind_Scope_node.f k x804000 x804001 ((rd_T156 x17 x19).f0) ((rd_T156 x17 x19).f1.f0) ((rd_T156 x17 x19).f1.f1) ((rd_T156 x17 x19).f1.f2) ((rd_T156 x17 x19).f2) ((rd_T156 x17 x19).f3) ((rd_T156 x17 x19).f4) x6).bind fun bt810 => (if bt810.2 = 0 then (if x19 < (x6.length : Int) then (kind_Of.l0 k x0 (x6.set (x19 : Int).toNat bt810.1) x17 x18 (wrap64 (x19 + 1)) x804000 x804001) else (none)) else (some (0, bt810.2)))) else (none)) else (none)) else (if 0 ≤ (wrap64 ((x0.length : Int) - 1)) then (if (wrap64 ((x0.length : Int) - 1)) < (x6.length : Int) then (some (rd x6 (wrap64 ((x0.length : Int) - 1)), 0)) else (none)) else (none))
def kind_Of.f (k : Nat) (l0 : List (S156)) (l1_0 : List (S118)) (l1_1 : List ByteArray) : Option (Int × Int) := (expr_Expr_Right.f k l0).bind fun t804 => (if t804 = true then (if 0 ≤ (l0.length : Int) then (if ((l0.length : Int) : Int).toNat ≤ 35184372088832 then (kind_Of.l0 k l0 (List.replicate ((l0.length : Int) : Int).toNat 0) l0 (l0.length : Int) 0 l1_0 l1_1) else (none)) else (none)) else (some (0, 11)))
set_option maxHeartbeats 8000000 in
set_option maxRecDepth 100000 in
theorem kind_Of.calls (k : Nat) (A0 : Option Addr) (c0 : Nat) (l0 : List (S156)) (A1_0 : Option Addr) (c1_0 : Nat) (l1_0 : List (S118)) (A1_1 : Option Addr) (c1_1 : Nat) (l1_1 : List ByteArray) (r1 : Int) (r2 : Int) (w : World) (hr0 : Kd.C k156 w A0 l0.length l0) (hc0 : l0.length ≤ c0) (hr1_0 : Kd.C k118 w A1_0 l1_0.length l1_0) (hc1_0 : l1_0.length ≤ c1_0) (hr1_1 : Kd.C Kd.string w A1_1 l1_1.length l1_1) (hc1_1 : l1_1.length ≤ c1_1) (hL : Laid w) (h : kind_Of.f k l0 l1_0 l1_1 = some (r1, r2)) :
  Calls Tryd.prog 54 #[.slice A0 l0.length c0, .agg #[.slice A1_0 l1_0.length c1_0, .slice A1_1 l1_1.length c1_1]] w fun e w' => e = .returned (.tuple #[.int .i64 r1, .int .i64 r2]) ∧ Below w.heap.size w w' := by
 have hu78 := Tryd.underlying78
 have hu156 := Tryd.underlying156
 have HR0 := Aside0.mk hr0
 have HC0 := Aside0.mk hc0
 clear hr0 hc0
 have HR1_0 := Aside0.mk hr1_0
 have HC1_0 := Aside0.mk hc1_0
 clear hr1_0 hc1_0
 have HR1_1 := Aside0.mk hr1_1
 have HC1_1 := Aside0.mk hc1_1
 clear hr1_1 hc1_1
 have HB := Aside0.mk (Below.refl w.heap.size w)
 have HLD := Aside0.mk hL
 clear hL
 have H : ((expr_Expr_Right.f k l0).bind fun t804 => (if t804 = true then (if 0 ≤ (l0.length : Int) then (if ((l0.length : Int) : Int).toNat ≤ 35184372088832 then (kind_Of.l0 k l0 (List.replicate ((l0.length : Int) : Int).toNat 0) l0 (l0.length : Int) 0 l1_0 l1_1) else (none)) else (none)) else (some (0, 11)))) = some (r1, r2) := h
 clear h
 replace H := Option.bind_eq_some_iff.mp H
 obtain ⟨t804, A30, H⟩ := H
 (try dsimp -simprocs only at H)
 have A3 := Aside0.mk A30
 clear A30
 by_cases c4 : t804 = true
 ·subst c4
  rw [if_pos rfl] at H
  by_cases c5 : 0 ≤ (l0.length : Int)
  ·rw [if_pos c5] at H
   have c5b0 := eq_true c5
   have c5b1 := decide_eq_true c5
   clear c5
   by_cases c6 : ((l0.length : Int) : Int).toNat ≤ 35184372088832
   ·rw [if_pos c6] at H
    have c6b0 := eq_true c6
    have c6b1 := decide_eq_true c6
    clear c6
    obtain ⟨y805, hy805⟩ : ∃ y_ : List Int, y_ = (List.replicate ((l0.length : Int) : Int).toNat 0) := ⟨_, rfl⟩
    replace H : (kind_Of.l0 k l0 y805 l0 (l0.length : Int) 0 l1_0 l1_1) = some (r1, r2) := by first | (rw [hy805]; with_reducible exact H) | (have H2_ := (Option.bind_some _ _).symm.trans H; rw [hy805]; with_reducible exact H2_) | (have H2_ := (Option.bind_some _ _).symm.trans H; with_reducible exact H2_) | with_reducible exact H | (rw [hy805]; exact H) | exact H
    have Ny805 := Aside0.mk hy805
    clear hy805
    have H' := Aside0.mk H
    clear H
    go_enter Tryd.func54, Tryd.ntmps54
    go_wp2_with (first | ((with_reducible refine gd 3 rfl ?_); refine bx 3 #[.slice A1_0 l1_0.length c1_0, .slice A1_1 l1_1.length c1_1] 78 ?_; intro gb803 hg w7 hbox hb; have BK803 := Aside0.mk (hbox); have GW803 := geS hg; have GE803 := geS hg; replace HB := bst hb; clear hb hbox hg) | ((with_reducible refine gc 58 rfl ?_); refine gl (some 12) #[.slice A0 l0.length c0] Tryd.func58 ?_; (with_reducible refine (expr_Expr_Right.calls k _ _ l0 true _ ?side1 ?side2 ?side3 A3.out).mono ?_); (case side1 => exact qC); (case side2 => exact HC0.out); (case side3 => exact Laid.below HLD.out qB); rintro e w8 ⟨rfl, hb⟩; refine ⟨_, rfl, ?_⟩; replace BK803 := kb gb803 hb; replace HB := bst hb; (try clear hb)) | ((with_reducible refine gate_dst (N := 16) rfl ?_); refine Kd.R_make (Kd.int .i64) _ 3 rfl (N := 16) rfl 154 _ _ rfl (l0.length : Int) rfl rfl Tryd.underlying154 (.int .i64 0) 8 info3 rfl (by decide) (by omega) 0 (ok := fun _ => True) (okp := fun _ => True) rfl (fun _ hk => hk) trivial (qD) (Nat.le_trans (Nat.mul_le_mul_right _ (qD : (l0.length : Int).toNat ≤ 35184372088832)) (by omega)) (Below.refl _ _) (Nat.le_refl _) ?_; intro v806 w9 ho10 hb hg_ hnew_; clear hg_ hnew_; (first | rw [← Ny805.out] at ho10 | (simp only [Int.reduceToNat] at ho10; rw [← Ny805.out] at ho10)); have HO807 := Aside0.mk (Kd.R_lower ho10 (below_size qB)); replace BK803 := kb gb803 hb; replace HB := bst hb; clear hb ho10))
    go_loopg [19] k (fun kq v19 w' => ∃ (x6_1 : List Int) (x19_1 : Int), v19 = .int .i64 x19_1 ∧ Aside0 (kind_Of.l0 kq l0 x6_1 l0 (l0.length : Int) x19_1 l1_0 l1_1 = some (r1, r2)) ∧ Aside0 (kq ≤ k) ∧ Aside0 (Kd.R (Kd.int .i64) 3 w' w.heap.size (fun _ => True) v806 x6_1) ∧ Aside0 (w'.heap[gb803]? = some (.cells #[(.slice A1_0 l1_0.length c1_0), (.slice A1_1 l1_1.length c1_1)] 78 (0, 0))) ∧ Aside0 (Below w.heap.size w w'))
    case atStart => exact ⟨(y805), (0), (by first | rfl | (simp; done) | (simp [*]; done)), H', ⟨Nat.le_refl _⟩, ⟨by (with_reducible repeat (first | apply Kd.R_alloc | apply Kd.R_drewN | apply Kd.R_drew)); exact HO807.out⟩, ⟨qK⟩, ⟨qB⟩⟩
    case round =>
     clear H'
     try clear c1
     try clear p2
     try clear c4
     try clear c5
     try clear c5b0
     try clear c5b1
     try clear c6
     try clear c6b0
     try clear c6b1
     obtain ⟨x6_1, x19_1, rfl, HA, HK1, HO_6, BK803, HB⟩ := hrel
     cases gk with
     | zero => exact absurd HA.out (by simp [kind_Of.l0])
     | succ k1 =>
      have H := HA.out
      clear HA
      simp only [kind_Of.l0] at H
      replace H := iD H
      rcases H with ⟨c11b0, H⟩ | ⟨c11b0, H⟩
      ·by_cases c12 : 0 ≤ x19_1
       ·rw [if_pos c12] at H
        have c12b0 := decide_eq_true c12
        clear c12
        replace H := iD H
        rcases H with ⟨c13b0, H⟩ | ⟨c13b0, H⟩
        ·replace H := Option.bind_eq_some_iff.mp H
         obtain ⟨⟨t810, t811⟩, A140, H⟩ := H
         (try dsimp -simprocs only at H)
         have A14 := Aside0.mk A140
         clear A140
         by_cases c15 : t811 = 0
         ·rw [if_pos c15] at H
          have c15b0 := beq_iff_eq.mpr c15
          have c15b1 := bne_eq_false_iff_eq.mpr c15
          clear c15
          replace H := iD H
          rcases H with ⟨c16b0, H⟩ | ⟨c16b0, H⟩
          ·obtain ⟨y812, hy812⟩ : ∃ y_ : List Int, y_ = (x6_1.set (x19_1 : Int).toNat t810) := ⟨_, rfl⟩
           replace H : (kind_Of.l0 k1 l0 y812 l0 (l0.length : Int) (wrap64 (x19_1 + 1)) l1_0 l1_1) = some (r1, r2) := by first | (rw [hy812]; with_reducible exact H) | (have H2_ := (Option.bind_some _ _).symm.trans H; rw [hy812]; with_reducible exact H2_) | (have H2_ := (Option.bind_some _ _).symm.trans H; with_reducible exact H2_) | with_reducible exact H | (rw [hy812]; exact H) | exact H
           have Ny812 := Aside0.mk hy812
           clear hy812
           have H' := Aside0.mk H
           clear H
           have p808 : 0 ≤ (x19_1 : Int) := qD
           have q808 : x19_1 < (l0.length : Int) := qD
           obtain ⟨ad808, e808, hx808_0, hx808_1, hx808_2, hx808_3, hx808_4, hx808_5, hx808_6⟩ := at_T156 (Kd.C_below HR0.out HB.out) x19_1 p808 q808
           cases e808
           replace p808 := eq_true p808
           replace q808 := eq_true q808
           go_wp2_with (first | ((with_reducible refine gd 8 rfl ?_); refine bx 8 #[.int .i64 0, .int .i64 0, .int .i64 0, .string (⟨#[]⟩ : ByteArray), .string (⟨#[]⟩ : ByteArray), .int .i64 0, .int .i64 0] 156 ?_; intro gb809 hg w18 hbox hb; have BK809 := Aside0.mk (hbox); have GW809 := geS hg; have GE809 := geS hg; have NB803_809 := neS gb803 hg; have NB809_803 := neT gb803 hg; replace BK803 := kb gb803 hb; replace HO_6 := rb HO_6 hb; replace HB := bst hb; clear hb hbox hg; have hnb19 := NB809_803.out; have hnc19 := NB803_809.out; obtain ⟨hcz20_0, hcz20_1, hcz20_2, hcz20_3, hcz20_4, hcz20_5, hcz20_6, hfz20_0, hfz20_1, hfz20_2, hfz20_3, hfz20_4, hfz20_5, hfz20_6⟩ := cells7 BK809.out; obtain ⟨hcz21_0, hcz21_1, hfz21_0, hfz21_1⟩ := cells2 BK803.out; obtain ⟨Ao22, co22, eo22⟩ := Kd.R_slice HO_6.out; subst eo22) | ((with_reducible refine gc 91 rfl ?_); refine gl (some 28) #[.agg #[.slice A1_0 l1_0.length c1_0, .slice A1_1 l1_1.length c1_1], .agg #[.int .i64 ((rd_T156 l0 x19_1).f0), .int .i64 ((rd_T156 l0 x19_1).f1.f0), .int .i64 ((rd_T156 l0 x19_1).f1.f1), .string ((rd_T156 l0 x19_1).f1.f2), .string ((rd_T156 l0 x19_1).f2), .int .i64 ((rd_T156 l0 x19_1).f3), .int .i64 ((rd_T156 l0 x19_1).f4)], .slice Ao22 x6_1.length co22] Tryd.func91 ?_; (with_reducible refine (kind_Scope_node.calls k1 _ _ l1_0 _ _ l1_1 ((rd_T156 l0 x19_1).f0) ((rd_T156 l0 x19_1).f1.f0) ((rd_T156 l0 x19_1).f1.f1) ((rd_T156 l0 x19_1).f1.f2) ((rd_T156 l0 x19_1).f2) ((rd_T156 l0 x19_1).f3) ((rd_T156 l0 x19_1).f4) _ _ x6_1 t810 t811 _ ?side1 ?side2 ?side3 ?side4 ?side5 ?side6 A14.out).mono ?_); (case side1 => exact Kd.C_below HR1_0.out qB); (case side2 => exact HC1_0.out); (case side3 => exact Kd.C_below HR1_1.out qB); (case side4 => exact HC1_1.out); (case side5 => refine (Kd.R_reads' (e := 3) (base := w.heap.size) (ok := fun k_ => True) (n := x6_1.length) (c := co22) ?_).2.2; exact (by (with_reducible repeat (first | apply Kd.R_alloc | apply Kd.R_drewN | apply Kd.R_drew)); exact (Kd.R_mono (Kd.R_far (p := ⟨gb809, 6, none⟩) (Kd.R_far (p := ⟨gb809, 5, none⟩) (Kd.R_far (p := ⟨gb809, 4, none⟩) (Kd.R_far (p := ⟨gb809, 3, none⟩) (Kd.R_far (p := ⟨gb809, 2, none⟩) (Kd.R_far (p := ⟨gb809, 1, none⟩) (Kd.R_far (p := ⟨gb809, 0, none⟩) (Kd.R_types HO_6.out BK809.out (by decide)) (fun _ hk => hk.2) (.int .i64 ((rd_T156 l0 x19_1).f0))) (fun _ hk => hk.2) (.int .i64 ((rd_T156 l0 x19_1).f1.f0))) (fun _ hk => hk.2) (.int .i64 ((rd_T156 l0 x19_1).f1.f1))) (fun _ hk => hk.2) (.string ((rd_T156 l0 x19_1).f1.f2))) (fun _ hk => hk.2) (.string ((rd_T156 l0 x19_1).f2))) (fun _ hk => hk.2) (.int .i64 ((rd_T156 l0 x19_1).f3))) (fun _ hk => hk.2) (.int .i64 ((rd_T156 l0 x19_1).f4))) (fun _ h_ => h_.1)))); (case side6 => exact (Kd.R_reads' HO_6.out).2.1); rintro e w23 ⟨rfl, hb⟩; refine ⟨_, rfl, ?_⟩; have n0_ := Aside0.mk (Kd.R_below (by (with_reducible repeat (first | apply Kd.R_alloc | apply Kd.R_drewN | apply Kd.R_drew)); exact (Kd.R_mono (Kd.R_far (p := ⟨gb809, 6, none⟩) (Kd.R_far (p := ⟨gb809, 5, none⟩) (Kd.R_far (p := ⟨gb809, 4, none⟩) (Kd.R_far (p := ⟨gb809, 3, none⟩) (Kd.R_far (p := ⟨gb809, 2, none⟩) (Kd.R_far (p := ⟨gb809, 1, none⟩) (Kd.R_far (p := ⟨gb809, 0, none⟩) (Kd.R_types HO_6.out BK809.out (by decide)) (fun _ hk => hk.2) (.int .i64 ((rd_T156 l0 x19_1).f0))) (fun _ hk => hk.2) (.int .i64 ((rd_T156 l0 x19_1).f1.f0))) (fun _ hk => hk.2) (.int .i64 ((rd_T156 l0 x19_1).f1.f1))) (fun _ hk => hk.2) (.string ((rd_T156 l0 x19_1).f1.f2))) (fun _ hk => hk.2) (.string ((rd_T156 l0 x19_1).f2))) (fun _ hk => hk.2) (.int .i64 ((rd_T156 l0 x19_1).f3))) (fun _ hk => hk.2) (.int .i64 ((rd_T156 l0 x19_1).f4))) (fun _ h_ => h_.1))) hb); have n1_ := kb gb803 hb; have n2_ := kp gb809 (.cells #[.int .i64 ((rd_T156 l0 x19_1).f0), .int .i64 ((rd_T156 l0 x19_1).f1.f0), .int .i64 ((rd_T156 l0 x19_1).f1.f1), .string ((rd_T156 l0 x19_1).f1.f2), .string ((rd_T156 l0 x19_1).f2), .int .i64 ((rd_T156 l0 x19_1).f3), .int .i64 ((rd_T156 l0 x19_1).f4)] 156 (0, 0)) hb; have n3_ := bst hb; clear HO_6; clear BK803; clear BK809; clear HB; have HO_6 := n0_; have BK803 := n1_; have BK809 := n2_; have HB := n3_; clear n0_ n1_ n2_ n3_; (try clear hb); have p17 : 0 ≤ (x19_1 : Int) := qD; have q17 : (x19_1 : Int) < ((x6_1.length : Int) : Int) := qD; obtain ⟨go17, co17, eo17, gb17, gl17, cl17, HG17⟩ := Kd.R_form HO_6.out (by omega); (first | cases eo17 | (injection eo17 with ea_ en_ ec_; (first | subst ea_ | (injection ea_ with ea_; subst ea_)); subst ec_; clear en_)); have GB17 := Aside0.mk gb17; have GG17 := Aside0.mk HG17; clear gb17 gl17 HG17; obtain ⟨hx17_0, hf17_0⟩ := Kd.R_celln 0 HO_6.out (x19_1 : Int) p17 q17; replace p17 := eq_true p17; replace q17 := eq_true q17; obtain ⟨hy24_, hz24_⟩ := Kd.R_celln 0 HO_6.out (x19_1 : Int) (qD) (qD); have HP24 := Kd.R_putg HO_6.out (x19_1 : Int) t810) | ((with_reducible refine gate_store (t := 3) (p := 37) rfl ?_); refine store_event (t := 3) (p := 37) (v := ?vo_w25) (w1 := (w23.setCell ⟨go17, (x19_1 : Int).toNat, none⟩ (.int .i64 t810))) ?hg ?ho ?hn ?hr ?_; (case ho => rfl); (case hg => rfl); (case hn => rfl); (case hr => first | (go_simp; done) | (go_simp; rfl)); intro w25 hw; have hg : w23.grownBy w25 (some go17) := (by rw [hw]; exact HP24.2); have hp_ : Kd.R (Kd.int .i64) 3 w25 w.heap.size (fun _ => True) (.slice (some ⟨go17, 0, none⟩) x6_1.length co22) y812 := (by rw [hw, Ny812.out]; exact HP24.1); clear HP24; have n0_ := Aside0.mk (hp_); have n1_ := Aside0.mk (blk_grown (g := gb803) (o := .cells #[.slice A1_0 l1_0.length c1_0, .slice A1_1 l1_1.length c1_1] 78 (0, 0)) qK hg (Kd.R_ne HO_6.out BK803.out (by decide))); have n2_ := Aside0.mk (blk_grown (g := gb809) (o := .cells #[.int .i64 ((rd_T156 l0 x19_1).f0), .int .i64 ((rd_T156 l0 x19_1).f1.f0), .int .i64 ((rd_T156 l0 x19_1).f1.f1), .string ((rd_T156 l0 x19_1).f1.f2), .string ((rd_T156 l0 x19_1).f2), .int .i64 ((rd_T156 l0 x19_1).f3), .int .i64 ((rd_T156 l0 x19_1).f4)] 156 (0, 0)) qK hg (Kd.R_ne HO_6.out BK809.out (by decide))); have n3_ := Aside0.mk ((by rw [hw]; exact below_set (HB.out) GB17.out : Below w.heap.size w w25)); clear HO_6; clear BK803; clear BK809; clear HB; have HO_6 := n0_; have BK803 := n1_; have BK809 := n2_; have HB := n3_; clear n0_ n1_ n2_ n3_; clear hg hw hp_))
           go_roundg k1
           case measure => have := HK1.out; omega
           case rel => exact ⟨(y812), (wrap64 (x19_1 + 1)), (by first | rfl | (simp; done) | (simp [*]; done)), H', ⟨by have := HK1.out; omega⟩, ⟨by (with_reducible repeat (first | apply Kd.R_alloc | apply Kd.R_drewN | apply Kd.R_drew)); exact HO_6.out⟩, ⟨qK⟩, ⟨qB⟩⟩
          ·exact absurd H (by simp)
         ·rw [if_neg c15] at H
          have c15b0 := beq_eq_false_iff_ne.mpr c15
          have c15b1 := bne_iff_ne.mpr c15
          simp only [Option.some.injEq, Prod.mk.injEq] at H
          obtain ⟨rfl, rfl⟩ := H
          have p808 : 0 ≤ (x19_1 : Int) := qD
          have q808 : x19_1 < (l0.length : Int) := qD
          obtain ⟨ad808, e808, hx808_0, hx808_1, hx808_2, hx808_3, hx808_4, hx808_5, hx808_6⟩ := at_T156 (Kd.C_below HR0.out HB.out) x19_1 p808 q808
          cases e808
          replace p808 := eq_true p808
          replace q808 := eq_true q808
          go_wp2_with (first | ((with_reducible refine gd 8 rfl ?_); refine bx 8 #[.int .i64 0, .int .i64 0, .int .i64 0, .string (⟨#[]⟩ : ByteArray), .string (⟨#[]⟩ : ByteArray), .int .i64 0, .int .i64 0] 156 ?_; intro gb809 hg w26 hbox hb; have BK809 := Aside0.mk (hbox); have GW809 := geS hg; have GE809 := geS hg; have NB803_809 := neS gb803 hg; have NB809_803 := neT gb803 hg; replace BK803 := kb gb803 hb; replace HO_6 := rb HO_6 hb; replace HB := bst hb; clear hb hbox hg; have hnb27 := NB809_803.out; have hnc27 := NB803_809.out; obtain ⟨hcz28_0, hcz28_1, hcz28_2, hcz28_3, hcz28_4, hcz28_5, hcz28_6, hfz28_0, hfz28_1, hfz28_2, hfz28_3, hfz28_4, hfz28_5, hfz28_6⟩ := cells7 BK809.out; obtain ⟨hcz29_0, hcz29_1, hfz29_0, hfz29_1⟩ := cells2 BK803.out; obtain ⟨Ao30, co30, eo30⟩ := Kd.R_slice HO_6.out; subst eo30) | ((with_reducible refine gc 91 rfl ?_); refine gl (some 28) #[.agg #[.slice A1_0 l1_0.length c1_0, .slice A1_1 l1_1.length c1_1], .agg #[.int .i64 ((rd_T156 l0 x19_1).f0), .int .i64 ((rd_T156 l0 x19_1).f1.f0), .int .i64 ((rd_T156 l0 x19_1).f1.f1), .string ((rd_T156 l0 x19_1).f1.f2), .string ((rd_T156 l0 x19_1).f2), .int .i64 ((rd_T156 l0 x19_1).f3), .int .i64 ((rd_T156 l0 x19_1).f4)], .slice Ao30 x6_1.length co30] Tryd.func91 ?_; (with_reducible refine (kind_Scope_node.calls k1 _ _ l1_0 _ _ l1_1 ((rd_T156 l0 x19_1).f0) ((rd_T156 l0 x19_1).f1.f0) ((rd_T156 l0 x19_1).f1.f1) ((rd_T156 l0 x19_1).f1.f2) ((rd_T156 l0 x19_1).f2) ((rd_T156 l0 x19_1).f3) ((rd_T156 l0 x19_1).f4) _ _ x6_1 t810 t811 _ ?side1 ?side2 ?side3 ?side4 ?side5 ?side6 A14.out).mono ?_); (case side1 => exact Kd.C_below HR1_0.out qB); (case side2 => exact HC1_0.out); (case side3 => exact Kd.C_below HR1_1.out qB); (case side4 => exact HC1_1.out); (case side5 => refine (Kd.R_reads' (e := 3) (base := w.heap.size) (ok := fun k_ => True) (n := x6_1.length) (c := co30) ?_).2.2; exact (by (with_reducible repeat (first | apply Kd.R_alloc | apply Kd.R_drewN | apply Kd.R_drew)); exact (Kd.R_mono (Kd.R_far (p := ⟨gb809, 6, none⟩) (Kd.R_far (p := ⟨gb809, 5, none⟩) (Kd.R_far (p := ⟨gb809, 4, none⟩) (Kd.R_far (p := ⟨gb809, 3, none⟩) (Kd.R_far (p := ⟨gb809, 2, none⟩) (Kd.R_far (p := ⟨gb809, 1, none⟩) (Kd.R_far (p := ⟨gb809, 0, none⟩) (Kd.R_types HO_6.out BK809.out (by decide)) (fun _ hk => hk.2) (.int .i64 ((rd_T156 l0 x19_1).f0))) (fun _ hk => hk.2) (.int .i64 ((rd_T156 l0 x19_1).f1.f0))) (fun _ hk => hk.2) (.int .i64 ((rd_T156 l0 x19_1).f1.f1))) (fun _ hk => hk.2) (.string ((rd_T156 l0 x19_1).f1.f2))) (fun _ hk => hk.2) (.string ((rd_T156 l0 x19_1).f2))) (fun _ hk => hk.2) (.int .i64 ((rd_T156 l0 x19_1).f3))) (fun _ hk => hk.2) (.int .i64 ((rd_T156 l0 x19_1).f4))) (fun _ h_ => h_.1)))); (case side6 => exact (Kd.R_reads' HO_6.out).2.1); rintro e w31 ⟨rfl, hb⟩; refine ⟨_, rfl, ?_⟩; have n0_ := Aside0.mk (Kd.R_below (by (with_reducible repeat (first | apply Kd.R_alloc | apply Kd.R_drewN | apply Kd.R_drew)); exact (Kd.R_mono (Kd.R_far (p := ⟨gb809, 6, none⟩) (Kd.R_far (p := ⟨gb809, 5, none⟩) (Kd.R_far (p := ⟨gb809, 4, none⟩) (Kd.R_far (p := ⟨gb809, 3, none⟩) (Kd.R_far (p := ⟨gb809, 2, none⟩) (Kd.R_far (p := ⟨gb809, 1, none⟩) (Kd.R_far (p := ⟨gb809, 0, none⟩) (Kd.R_types HO_6.out BK809.out (by decide)) (fun _ hk => hk.2) (.int .i64 ((rd_T156 l0 x19_1).f0))) (fun _ hk => hk.2) (.int .i64 ((rd_T156 l0 x19_1).f1.f0))) (fun _ hk => hk.2) (.int .i64 ((rd_T156 l0 x19_1).f1.f1))) (fun _ hk => hk.2) (.string ((rd_T156 l0 x19_1).f1.f2))) (fun _ hk => hk.2) (.string ((rd_T156 l0 x19_1).f2))) (fun _ hk => hk.2) (.int .i64 ((rd_T156 l0 x19_1).f3))) (fun _ hk => hk.2) (.int .i64 ((rd_T156 l0 x19_1).f4))) (fun _ h_ => h_.1))) hb); have n1_ := kb gb803 hb; have n2_ := kp gb809 (.cells #[.int .i64 ((rd_T156 l0 x19_1).f0), .int .i64 ((rd_T156 l0 x19_1).f1.f0), .int .i64 ((rd_T156 l0 x19_1).f1.f1), .string ((rd_T156 l0 x19_1).f1.f2), .string ((rd_T156 l0 x19_1).f2), .int .i64 ((rd_T156 l0 x19_1).f3), .int .i64 ((rd_T156 l0 x19_1).f4)] 156 (0, 0)) hb; have n3_ := bst hb; clear HO_6; clear BK803; clear BK809; clear HB; have HO_6 := n0_; have BK803 := n1_; have BK809 := n2_; have HB := n3_; clear n0_ n1_ n2_ n3_; (try clear hb)))
          go_ret2
          exact ⟨qR, qB⟩
        ·exact absurd H (by simp)
       ·rw [if_neg c12] at H
        exact absurd H (by simp)
      ·obtain ⟨ji32, hji32⟩ : ∃ j_ : Int, (wrap64 ((l0.length : Int) - 1)) = j_ := ⟨_, rfl⟩
       replace H : (if 0 ≤ (ji32) then (if (ji32) < (x6_1.length : Int) then (some (rd x6_1 (ji32), 0)) else (none)) else (none)) = some (r1, r2) := by first | (rw [hji32] at H; exact H) | (simp only [hji32] at H ⊢; exact H)
       have hji32w : (IntKind.i64.wrap ((l0.length : Int) - 1)) = ji32 := (i64_w _).trans hji32
       replace H := iD H
       rcases H with ⟨c33b0, H⟩ | ⟨c33b0, H⟩
       ·by_cases c34 : (ji32) < (x6_1.length : Int)
        ·rw [if_pos c34] at H
         have c34b0 := decide_eq_true c34
         clear c34
         simp only [Option.some.injEq, Prod.mk.injEq] at H
         obtain ⟨rfl, rfl⟩ := H
         obtain ⟨Ao35, co35, eo35⟩ := Kd.R_slice HO_6.out
         subst eo35
         have p813 : 0 ≤ ((ji32) : Int) := qD
         have q813 : (ji32) < (x6_1.length : Int) := qD
         obtain ⟨ad813, e813, hx813_0⟩ := Kd.at_int (Kd.R_reads' HO_6.out).2.2 (ji32) p813 q813
         cases e813
         replace p813 := eq_true p813
         replace q813 := eq_true q813
         go_wp2
         go_ret2
         exact ⟨by first | rfl | (simp [errW_none, errW_some] <;> rfl) | (simp only [← hji32]; first | rfl | (simp [errW_none, errW_some] <;> rfl)) | (simp [*, errW_none, errW_some] <;> rfl), qB⟩
        ·rw [if_neg c34] at H
         exact absurd H (by simp)
       ·exact absurd H (by simp)
   ·rw [if_neg c6] at H
    exact absurd H (by simp)
  ·rw [if_neg c5] at H
   exact absurd H (by simp)
 ·replace c4 := Bool.eq_false_iff.mpr c4
  subst c4
  rw [if_neg (show ¬ (false = true) by decide)] at H
  simp only [Option.some.injEq, Prod.mk.injEq] at H
  obtain ⟨rfl, rfl⟩ := H
  go_enter Tryd.func54, Tryd.ntmps54
  go_wp2_with (first | ((with_reducible refine gd 3 rfl ?_); refine bx 3 #[.slice A1_0 l1_0.length c1_0, .slice A1_1 l1_1.length c1_1] 78 ?_; intro gb803 hg w36 hbox hb; have BK803 := Aside0.mk (hbox); have GW803 := geS hg; have GE803 := geS hg; replace HB := bst hb; clear hb hbox hg) | ((with_reducible refine gc 58 rfl ?_); refine gl (some 12) #[.slice A0 l0.length c0] Tryd.func58 ?_; (with_reducible refine (expr_Expr_Right.calls k _ _ l0 false _ ?side1 ?side2 ?side3 A3.out).mono ?_); (case side1 => exact qC); (case side2 => exact HC0.out); (case side3 => exact Laid.below HLD.out qB); rintro e w37 ⟨rfl, hb⟩; refine ⟨_, rfl, ?_⟩; replace BK803 := kb gb803 hb; replace HB := bst hb; (try clear hb)))
  go_ret2
  exact ⟨qR, qB⟩
end Go.Proofs.YtbngfhlciebeeaaDoor.L
end
section
namespace Go.Proofs.YtbngfhlciebeeaaDoor.L
open Go.RowKit Go.Proofs.YtbngfhlciebeeaaDoorW.PrintWords Go.Proofs.YtbngfhlciebeeaaDoorW.PrintLast Go.Proofs.YtbngfhlciebeeaaDoorW.PrintMore
attribute [local go_sem] max2_int min2_int max_two min_two max_three min_three max_four min_four   -- for this text's walks alone
set_option linter.unusedVariables false
set_option linter.unusedSimpArgs false
mutual
def whirligigref01_Result.j0 : Nat → Int → Int → Int → Bool → Option (Int)
 | 0, _, _, _, _ => none
 | k + 1, x0, x1, x2, x12 => if x12 = true then (some 2) else (if x0 = 2 then (whirligigref01_Result.j1 k x0 x1 x2 (x1 == 1)) else (whirligigref01_Result.j1 k x0 x1 x2 false))
def whirligigref01_Result.j1 : Nat → Int → Int → Int → Bool → Option (Int)
 | 0, _, _, _, _ => none
 | k + 1, x0, x1, x2, x18 => if x18 = true then (some 1) else (if x0 < 3 then (whirligigref01_Result.j2 k x0 x1 true) else (if x0 > 15 then (whirligigref01_Result.j2 k x0 x1 true) else (if x1 = x2 then (if x1 < 1 then (whirligigref01_Result.j2 k x0 x1 true) else (whirligigref01_Result.j2 k x0 x1 (decide (x1 > 3)))) else (whirligigref01_Result.j2 k x0 x1 true))))
def whirligigref01_Result.j2 : Nat → Int → Int → Bool → Option (Int)
 | 0, _, _, _ => none
 | k + 1, x0, x1, x37 => if x37 = true then (some 0) else (if x0 ≥ 14 then (if x1 = 2 then (whirligigref01_Result.j3 k x0 x1 true) else (if x0 = 12 then (whirligigref01_Result.j3 k x0 x1 true) else (whirligigref01_Result.j3 k x0 x1 (x0 == 13)))) else (if x0 = 12 then (whirligigref01_Result.j3 k x0 x1 true) else (whirligigref01_Result.j3 k x0 x1 (x0 == 13))))
def whirligigref01_Result.j3 : Nat → Int → Int → Bool → Option (Int)
 | 0, _, _, _ => none
 | k + 1, x0, x1, x51 => if x51 = true then (some 2) else (if x0 ≥ 8 then (if x0 ≤ 11 then (whirligigref01_Result.j4 k x0 x1 (x1 != 2)) else (whirligigref01_Result.j4 k x0 x1 false)) else (whirligigref01_Result.j4 k x0 x1 false))
def whirligigref01_Result.j4 : Nat → Int → Int → Bool → Option (Int)
 | 0, _, _, _ => none
 | k + 1, x0, x1, x61 => if x61 = true then (some 2) else (if x0 = 6 then (whirligigref01_Result.j5 k x0 x1 (x1 == 3)) else (whirligigref01_Result.j5 k x0 x1 false))
def whirligigref01_Result.j5 : Nat → Int → Int → Bool → Option (Int)
 | 0, _, _, _ => none
 | k + 1, x0, x1, x67 => if x67 = true then (some 3) else (if x0 ≥ 3 then (if x0 ≤ 7 then (if x1 = 1 then (some 1) else (some 0)) else (some 0)) else (some 0))
end
def whirligigref01_Result.f (k : Nat) (a0 : Int) (a1 : Int) (a2 : Int) : Option (Int) := if a0 = 1 then (whirligigref01_Result.j0 k a0 a1 a2 (a1 == 2)) else (whirligigref01_Result.j0 k a0 a1 a2 false)
end Go.Proofs.YtbngfhlciebeeaaDoor.L
end
section
namespace Go.Proofs.YtbngfhlciebeeaaDoor.L
open Go.RowKit Go.Proofs.YtbngfhlciebeeaaDoorW.PrintWords Go.Proofs.YtbngfhlciebeeaaDoorW.PrintLast Go.Proofs.YtbngfhlciebeeaaDoorW.PrintMore
attribute [local go_sem] max2_int min2_int max_two min_two max_three min_three max_four min_four   -- for this text's walks alone
set_option linter.unusedVariables false
set_option linter.unusedSimpArgs false
mutual
def whirligigref04_Of.l0 : Nat → Int → List (S151) → Int → Int → Int → Int → ByteArray → ByteArray → Int → Int → Option (Int × Int × Int)
 | 0, _, _, _, _, _, _, _, _, _, _ => none
 | k + 1, x1, x2, x12, x873000, x873001, x873002, x873003, x873004, x873005, x873006 => if x12 < (x2.length : Int) then (if 0 ≤ x12 then (if ((rd_T151 x2 x12).f0).toList = x873004.toList then (some ((rd_T151 x2 x12).f1, 0, 0)) else (whirligigref04_Of.l0 k x1 x2 (wrap64 (x12 + 1)) x873000 x873001 x873002 x873003 x873004 x873005 x873006)) else (none)) else (some (0, 24, x1))
def whirligigref04_Of.l1 : Nat → Int → List ByteArray → Int → Int → Int → Int → ByteArray → ByteArray → Int → Int → Option (Int × Int × Int)
 | 0, _, _, _, _, _, _, _, _, _, _ => none
 | k + 1, x1, x3, x13, x873000, x873001, x873002, x873003, x873004, x873005, x873006 => if x13 < (x3.length : Int) then (if 0 ≤ x13 then (if (rdOf ByteArray.empty x3 x13).toList = x873004.toList then (some (2, 0, 0)) else (whirligigref04_Of.l1 k x1 x3 (wrap64 (x13 + 1)) x873000 x873001 x873002 x873003 x873004 x873005 x873006)) else (none)) else (some (0, 24, x1))
def whirligigref04_Of.j2 : Nat → List (S159) → Int → List (S151) → List ByteArray → Int → Int → Int → Int → Bool → Int → Int → Int → ByteArray → ByteArray → Int → Int → Option (Int × Int × Int)
 | 0, _, _, _, _, _, _, _, _, _, _, _, _, _, _, _, _ => none
 | k + 1, x0, x1, x2, x3, x14, x15, x16, x17, x85, x873000, x873001, x873002, x873003, x873004, x873005, x873006 => if x85 = true then ((whirligigref04_Of.f k x0 x873006 x2 x3).bind fun bt879 => (whirligigref04_Of.j3 k x1 x14 bt879.2.1 bt879.2.2 bt879.1 x873000 x873001 x873002 x873003 x873004 x873005 x873006)) else (whirligigref04_Of.j3 k x1 x14 x15 x16 x17 x873000 x873001 x873002 x873003 x873004 x873005 x873006)
def whirligigref04_Of.j3 : Nat → Int → Int → Int → Int → Int → Int → Int → Int → ByteArray → ByteArray → Int → Int → Option (Int × Int × Int)
 | 0, _, _, _, _, _, _, _, _, _, _, _, _ => none
 | k + 1, x1, x14, x15, x16, x17, x873000, x873001, x873002, x873003, x873004, x873005, x873006 => if x15 = 0 then ((whirligigref01_Result.f k x873000 x14 x17).bind fun t882 => (if t882 = 0 then (some (0, 20, x1)) else (some (t882, 0, 0)))) else (some (0, x15, x16))
def whirligigref04_Of.f : Nat → List (S159) → Int → List (S151) → List ByteArray → Option (Int × Int × Int)
 | 0, _, _, _, _ => none
 | k + 1, l0, a1, l2, l3 => if 0 ≤ a1 then (if a1 < (l0.length : Int) then (if ((rd_T159 l0 a1).f0) = 0 then (some ((rd_T159 l0 a1).f1.f0, 0, 0)) else (if ((rd_T159 l0 a1).f0) = 16 then (whirligigref04_Of.l0 k a1 l2 0 ((rd_T159 l0 a1).f0) ((rd_T159 l0 a1).f1.f0) ((rd_T159 l0 a1).f1.f1) ((rd_T159 l0 a1).f1.f2) ((rd_T159 l0 a1).f2) ((rd_T159 l0 a1).f3) ((rd_T159 l0 a1).f4)) else (if ((rd_T159 l0 a1).f0) = 17 then (whirligigref04_Of.l1 k a1 l3 0 ((rd_T159 l0 a1).f0) ((rd_T159 l0 a1).f1.f0) ((rd_T159 l0 a1).f1.f1) ((rd_T159 l0 a1).f1.f2) ((rd_T159 l0 a1).f2) ((rd_T159 l0 a1).f3) ((rd_T159 l0 a1).f4)) else ((whirligigref04_Of.f k l0 ((rd_T159 l0 a1).f3) l2 l3).bind fun bt876 => (if bt876.2.1 = 0 then (whirligigref04_Of.j2 k l0 a1 l2 l3 bt876.1 bt876.2.1 bt876.2.2 0 (decide (((rd_T159 l0 a1).f0) > 2)) ((rd_T159 l0 a1).f0) ((rd_T159 l0 a1).f1.f0) ((rd_T159 l0 a1).f1.f1) ((rd_T159 l0 a1).f1.f2) ((rd_T159 l0 a1).f2) ((rd_T159 l0 a1).f3) ((rd_T159 l0 a1).f4)) else (whirligigref04_Of.j2 k l0 a1 l2 l3 bt876.1 bt876.2.1 bt876.2.2 0 false ((rd_T159 l0 a1).f0) ((rd_T159 l0 a1).f1.f0) ((rd_T159 l0 a1).f1.f1) ((rd_T159 l0 a1).f1.f2) ((rd_T159 l0 a1).f2) ((rd_T159 l0 a1).f3) ((rd_T159 l0 a1).f4))))))) else (none)) else (none)
end
end Go.Proofs.YtbngfhlciebeeaaDoor.L
end
