/- Printed and hand-written steps towards the row (EvalTyped), those that it reaches. -/
import Derived.Test.YtbngfhlciebeeaaDoorEvalTypedG3
import Derived.Test.YtbngfhlciebeeaaDoorEvalTypedG4
import Derived.Test.YtbngfhlciebeeaaDoorEvalTypedG11
import Derived.Test.YtbngfhlciebeeaaDoorEvalTypedG23
import Derived.Test.YtbngfhlciebeeaaDoorEvalTypedG15
section
namespace Go.Proofs.YtbngfhlciebeeaaDoor.L
open Go.RowKit Go.Proofs.YtbngfhlciebeeaaDoorW.PrintWords Go.Proofs.YtbngfhlciebeeaaDoorW.PrintLast Go.Proofs.YtbngfhlciebeeaaDoorW.PrintMore
attribute [local go_sem] max2_int min2_int max_two min_two max_three min_three max_four min_four   -- for this text's walks alone
set_option linter.unusedVariables false
set_option linter.unusedSimpArgs false
def kind_Of.l0 : Nat → List (S156) → List Int → List (S156) → Int → Int → List (S118) → List ByteArray → Option (Int × Int)
 | 0, _, _, _, _, _, _, _ => none
 | k + 1, x0, x6, x17, x18, x19, x804000, x804001 => if x19 < x18 then (if 0 ≤ x19 then (if x19 < (x17.length : Int) then ((kind_Scope_node.f k x804000 x804001 ((rd_T156 x17 x19).f0) ((rd_T156 x17 x19).f1.f0) ((rd_T156 x17 x19).f1.f1) ((rd_T156 x17 x19).f1.f2) ((rd_T156 x17 x19).f2) ((rd_T156 x17 x19).f3) ((rd_T156 x17 x19).f4) x6).bind fun bt810 => (if bt810.2 = 0 then (if x19 < (x6.length : Int) then (kind_Of.l0 k x0 (x6.set (x19 : Int).toNat bt810.1) x17 x18 (wrap64 (x19 + 1)) x804000 x804001) else (none)) else (some (0, bt810.2)))) else (none)) else (none)) else (if 0 ≤ (wrap64 ((x0.length : Int) - 1)) then (if (wrap64 ((x0.length : Int) - 1)) < (x6.length : Int) then (some (rd x6 (wrap64 ((x0.length : Int) - 1)), 0)) else (none)) else (none))
def kind_Of.f (k : Nat) (l0 : List (S156)) (l1_0 : List (S118)) (l1_1 : List ByteArray) : Option (Int × Int) := (expr_Expr_Right.f k l0).bind fun t804 => (if t804 = true then (if 0 ≤ (l0.length : Int) then (if ((l0.length : Int) : Int).toNat ≤ 35184372088832 then (kind_Of.l0 k l0 (List.replicate ((l0.length : Int) : Int).toNat 0) l0 (l0.length : Int) 0 l1_0 l1_1) else (none)) else (none)) else (some (0, 11)))
set_option maxHeartbeats 8000000 in
set_option maxRecDepth 100000 in
theorem kind_Of.calls (k : Nat) (A0 : Option Addr) (c0 : Nat) (l0 : List (S156)) (A1_0 : Option Addr) (c1_0 : Nat) (l1_0 : List (S118)) (A1_1 : Option Addr) (c1_1 : Nat) (l1_1 : List ByteArray) (r1 : Int) (r2 : Int) (w : World) (hr0 : Kd.C k156 w A0 l0.length l0) (hc0 : l0.length ≤ c0) (hr1_0 : Kd.C k118 w A1_0 l1_0.length l1_0) (hc1_0 : l1_0.length ≤ c1_0) (hr1_1 : Kd.C Kd.string w A1_1 l1_1.length l1_1) (hc1_1 : l1_1.length ≤ c1_1) (hL : Laid w) (h : kind_Of.f k l0 l1_0 l1_1 = some (r1, r2)) :
  Calls Tryd.prog 54 #[.slice A0 l0.length c0, .agg #[.slice A1_0 l1_0.length c1_0, .slice A1_1 l1_1.length c1_1]] w fun e w' => e = .returned (.tuple #[.int .i64 r1, .int .i64 r2]) ∧ Below w.heap.size w w' := by
 have hu78 := Tryd.underlying78
 have hu156 := Tryd.underlying156
 have HR0 := Aside0.mk hr0
 have HC0 := Aside0.mk hc0
 clear hr0 hc0
 have HR1_0 := Aside0.mk hr1_0
 have HC1_0 := Aside0.mk hc1_0
 clear hr1_0 hc1_0
 have HR1_1 := Aside0.mk hr1_1
 have HC1_1 := Aside0.mk hc1_1
 clear hr1_1 hc1_1
 have HB := Aside0.mk (Below.refl w.heap.size w)
 have HLD := Aside0.mk hL
 clear hL
 have H : ((expr_Expr_Right.f k l0).bind fun t804 => (if t804 = true then (if 0 ≤ (l0.length : Int) then (if ((l0.length : Int) : Int).toNat ≤ 35184372088832 then (kind_Of.l0 k l0 (List.replicate ((l0.length : Int) : Int).toNat 0) l0 (l0.length : Int) 0 l1_0 l1_1) else (none)) else (none)) else (some (0, 11)))) = some (r1, r2) := h
 clear h
 replace H := Option.bind_eq_some_iff.mp H
 obtain ⟨t804, A30, H⟩ := H
 (try dsimp -simprocs only at H)
 have A3 := Aside0.mk A30
 clear A30
 by_cases c4 : t804 = true
 ·subst c4
  rw [if_pos rfl] at H
  by_cases c5 : 0 ≤ (l0.length : Int)
  ·rw [if_pos c5] at H
   have c5b0 := eq_true c5
   have c5b1 := decide_eq_true c5
   clear c5
   by_cases c6 : ((l0.length : Int) : Int).toNat ≤ 35184372088832
   ·rw [if_pos c6] at H
    have c6b0 := eq_true c6
    have c6b1 := decide_eq_true c6
    clear c6
    obtain ⟨y805, hy805⟩ : ∃ y_ : List Int, y_ = (List.replicate ((l0.length : Int) : Int).toNat 0) := ⟨_, rfl⟩
    replace H : (kind_Of.l0 k l0 y805 l0 (l0.length : Int) 0 l1_0 l1_1) = some (r1, r2) := by first | (rw [hy805]; with_reducible exact H) | (have H2_ := (Option.bind_some _ _).symm.trans H; rw [hy805]; with_reducible exact H2_) | (have H2_ := (Option.bind_some _ _).symm.trans H; with_reducible exact H2_) | with_reducible exact H | (rw [hy805]; exact H) | exact H
    have Ny805 := Aside0.mk hy805
    clear hy805
    have H' := Aside0.mk H
    clear H
    go_enter Tryd.func54, Tryd.ntmps54
    go_wp2_with (first | ((with_reducible refine gd 3 rfl ?_); refine bxx 3 #[.slice A1_0 l1_0.length c1_0, .slice A1_1 l1_1.length c1_1] 78 ?_; intro gb803 w7 BK803 GW803 HB) | ((with_reducible refine gc 58 rfl ?_); refine gl (some 12) #[.slice A0 l0.length c0] Tryd.func58 ?_; (with_reducible refine (expr_Expr_Right.calls k _ _ l0 true _ ?side1 ?side2 ?side3 A3.out).mono ?_); (case side1 => exact qC); (case side2 => exact HC0.out); (case side3 => exact Laid.below HLD.out qB); rintro e w8 ⟨rfl, hb⟩; refine ⟨_, rfl, ?_⟩; replace BK803 := kb gb803 hb; replace HB := bst hb; (try clear hb)) | ((with_reducible refine gate_dst (N := 16) rfl ?_); refine Kd.R_make (Kd.int .i64) _ 3 rfl (N := 16) rfl 154 _ _ rfl (l0.length : Int) rfl rfl Tryd.underlying154 (.int .i64 0) 8 info3 rfl (by decide) (by omega) 0 (ok := fun _ => True) (okp := fun _ => True) rfl (fun _ hk => hk) trivial (qD) (Nat.le_trans (Nat.mul_le_mul_right _ (qD : (l0.length : Int).toNat ≤ 35184372088832)) (by omega)) (Below.refl _ _) (Nat.le_refl _) ?_; intro v806 w9 ho10 hb hg_ hnew_; clear hg_ hnew_; (first | rw [← Ny805.out] at ho10 | (simp only [Int.reduceToNat] at ho10; rw [← Ny805.out] at ho10)); have HO807 := Aside0.mk (Kd.R_lower ho10 (below_size qB)); replace BK803 := kb gb803 hb; replace HB := bst hb; clear hb ho10))
    go_loopg [19] k (fun kq v19 w' => ∃ (x6_1 : List Int) (x19_1 : Int), v19 = .int .i64 x19_1 ∧ Aside0 (kind_Of.l0 kq l0 x6_1 l0 (l0.length : Int) x19_1 l1_0 l1_1 = some (r1, r2)) ∧ Aside0 (kq ≤ k) ∧ Aside0 (Kd.R (Kd.int .i64) 3 w' w.heap.size (fun _ => True) v806 x6_1) ∧ Aside0 (w'.heap[gb803]? = some (.cells #[(.slice A1_0 l1_0.length c1_0), (.slice A1_1 l1_1.length c1_1)] 78 (0, 0))) ∧ Aside0 (Below w.heap.size w w'))
    case atStart => exact ⟨(y805), (0), qE, H', ⟨Nat.le_refl _⟩, ⟨by (with_reducible repeat (first | apply Kd.R_alloc | apply Kd.R_drewN | apply Kd.R_drew)); exact HO807.out⟩, ⟨qK⟩, ⟨qB⟩⟩
    case round =>
     clear H'
     try clear p2
     obtain ⟨x6_1, x19_1, rfl, HA, HK1, HO_6, BK803, HB⟩ := hrel; cases gk with
     | zero => exact absurd HA.out (by simp [kind_Of.l0])
     | succ k1 =>
      have H := HA.out; clear HA; simp only [kind_Of.l0] at H; replace H := iD H
      rcases H with ⟨c11b0, H⟩ | ⟨c11b0, H⟩
      ·by_cases c12 : 0 ≤ x19_1
       ·rw [if_pos c12] at H; have c12b0 := decide_eq_true c12; clear c12; replace H := iD H
        rcases H with ⟨c13b0, H⟩ | ⟨c13b0, H⟩
        ·replace H := Option.bind_eq_some_iff.mp H; obtain ⟨⟨t810, t811⟩, A140, H⟩ := H; (try dsimp -simprocs only at H); have A14 := Aside0.mk A140; clear A140
         by_cases c15 : t811 = 0
         ·rw [if_pos c15] at H; have c15b0 := beq_iff_eq.mpr c15; have c15b1 := bne_eq_false_iff_eq.mpr c15; clear c15; replace H := iD H
          rcases H with ⟨c16b0, H⟩ | ⟨c16b0, H⟩
          ·obtain ⟨y812, hy812⟩ : ∃ y_ : List Int, y_ = (x6_1.set (x19_1 : Int).toNat t810) := ⟨_, rfl⟩; replace H : (kind_Of.l0 k1 l0 y812 l0 (l0.length : Int) (wrap64 (x19_1 + 1)) l1_0 l1_1) = some (r1, r2) := by first | (rw [hy812]; with_reducible exact H) | (have H2_ := (Option.bind_some _ _).symm.trans H; rw [hy812]; with_reducible exact H2_) | (have H2_ := (Option.bind_some _ _).symm.trans H; with_reducible exact H2_) | with_reducible exact H | (rw [hy812]; exact H) | exact H
           have Ny812 := Aside0.mk hy812; clear hy812; have H' := Aside0.mk H; clear H; have p808 : 0 ≤ (x19_1 : Int) := qD; have q808 : x19_1 < (l0.length : Int) := qD; obtain ⟨ad808, e808, hx808_0, hx808_1, hx808_2, hx808_3, hx808_4, hx808_5, hx808_6⟩ := at_T156 (Kd.C_below HR0.out HB.out) x19_1 p808 q808; cases e808; replace p808 := eq_true p808; replace q808 := eq_true q808
           go_wp2_with (first | ((with_reducible refine gd 8 rfl ?_); refine bx 8 #[.int .i64 0, .int .i64 0, .int .i64 0, .string (⟨#[]⟩ : ByteArray), .string (⟨#[]⟩ : ByteArray), .int .i64 0, .int .i64 0] 156 ?_; intro gb809 hg w18 hbox hb; have BK809 := Aside0.mk (hbox); have GW809 := geS hg; have GE809 := geS hg; have NB803_809 := neS gb803 hg; have NB809_803 := neT gb803 hg; replace BK803 := kb gb803 hb; replace HO_6 := rb HO_6 hb; replace HB := bst hb; clear hb hbox hg; have := NB809_803.out; have := NB803_809.out; obtain ⟨_, _, _, _, _, _, _, _, _, _, _, _, _, _⟩ := cells7 BK809.out; obtain ⟨_, _, _, _⟩ := cells2 BK803.out; obtain ⟨Ao22, co22, eo22⟩ := Kd.R_slice HO_6.out; subst eo22) | ((with_reducible refine gc 91 rfl ?_); refine gl (some 28) #[.agg #[.slice A1_0 l1_0.length c1_0, .slice A1_1 l1_1.length c1_1], .agg #[.int .i64 ((rd_T156 l0 x19_1).f0), .int .i64 ((rd_T156 l0 x19_1).f1.f0), .int .i64 ((rd_T156 l0 x19_1).f1.f1), .string ((rd_T156 l0 x19_1).f1.f2), .string ((rd_T156 l0 x19_1).f2), .int .i64 ((rd_T156 l0 x19_1).f3), .int .i64 ((rd_T156 l0 x19_1).f4)], .slice Ao22 x6_1.length co22] Tryd.func91 ?_; (with_reducible refine (kind_Scope_node.calls k1 _ _ l1_0 _ _ l1_1 ((rd_T156 l0 x19_1).f0) ((rd_T156 l0 x19_1).f1.f0) ((rd_T156 l0 x19_1).f1.f1) ((rd_T156 l0 x19_1).f1.f2) ((rd_T156 l0 x19_1).f2) ((rd_T156 l0 x19_1).f3) ((rd_T156 l0 x19_1).f4) _ _ x6_1 t810 t811 _ ?side1 ?side2 ?side3 ?side4 ?side5 ?side6 A14.out).mono ?_); (case side1 => exact Kd.C_below HR1_0.out qB); (case side2 => exact HC1_0.out); (case side3 => exact Kd.C_below HR1_1.out qB); (case side4 => exact HC1_1.out); (case side5 => refine (Kd.R_reads' (e := 3) (base := w.heap.size) (ok := fun k_ => True) (n := x6_1.length) (c := co22) ?_).2.2; exact (by (with_reducible repeat (first | apply Kd.R_alloc | apply Kd.R_drewN | apply Kd.R_drew)); exact (Kd.R_mono (Kd.R_far (p := ⟨gb809, 6, none⟩) (Kd.R_far (p := ⟨gb809, 5, none⟩) (Kd.R_far (p := ⟨gb809, 4, none⟩) (Kd.R_far (p := ⟨gb809, 3, none⟩) (Kd.R_far (p := ⟨gb809, 2, none⟩) (Kd.R_far (p := ⟨gb809, 1, none⟩) (Kd.R_far (p := ⟨gb809, 0, none⟩) (Kd.R_types HO_6.out BK809.out (by decide)) (fun _ hk => hk.2) (.int .i64 ((rd_T156 l0 x19_1).f0))) (fun _ hk => hk.2) (.int .i64 ((rd_T156 l0 x19_1).f1.f0))) (fun _ hk => hk.2) (.int .i64 ((rd_T156 l0 x19_1).f1.f1))) (fun _ hk => hk.2) (.string ((rd_T156 l0 x19_1).f1.f2))) (fun _ hk => hk.2) (.string ((rd_T156 l0 x19_1).f2))) (fun _ hk => hk.2) (.int .i64 ((rd_T156 l0 x19_1).f3))) (fun _ hk => hk.2) (.int .i64 ((rd_T156 l0 x19_1).f4))) (fun _ h_ => h_.1)))); (case side6 => exact (Kd.R_reads' HO_6.out).2.1); rintro e w23 ⟨rfl, hb⟩; refine ⟨_, rfl, ?_⟩; have n0_ := Aside0.mk (Kd.R_below (by (with_reducible repeat (first | apply Kd.R_alloc | apply Kd.R_drewN | apply Kd.R_drew)); exact (Kd.R_mono (Kd.R_far (p := ⟨gb809, 6, none⟩) (Kd.R_far (p := ⟨gb809, 5, none⟩) (Kd.R_far (p := ⟨gb809, 4, none⟩) (Kd.R_far (p := ⟨gb809, 3, none⟩) (Kd.R_far (p := ⟨gb809, 2, none⟩) (Kd.R_far (p := ⟨gb809, 1, none⟩) (Kd.R_far (p := ⟨gb809, 0, none⟩) (Kd.R_types HO_6.out BK809.out (by decide)) (fun _ hk => hk.2) (.int .i64 ((rd_T156 l0 x19_1).f0))) (fun _ hk => hk.2) (.int .i64 ((rd_T156 l0 x19_1).f1.f0))) (fun _ hk => hk.2) (.int .i64 ((rd_T156 l0 x19_1).f1.f1))) (fun _ hk => hk.2) (.string ((rd_T156 l0 x19_1).f1.f2))) (fun _ hk => hk.2) (.string ((rd_T156 l0 x19_1).f2))) (fun _ hk => hk.2) (.int .i64 ((rd_T156 l0 x19_1).f3))) (fun _ hk => hk.2) (.int .i64 ((rd_T156 l0 x19_1).f4))) (fun _ h_ => h_.1))) hb); have n1_ := kb gb803 hb; have n2_ := kp gb809 (.cells #[.int .i64 ((rd_T156 l0 x19_1).f0), .int .i64 ((rd_T156 l0 x19_1).f1.f0), .int .i64 ((rd_T156 l0 x19_1).f1.f1), .string ((rd_T156 l0 x19_1).f1.f2), .string ((rd_T156 l0 x19_1).f2), .int .i64 ((rd_T156 l0 x19_1).f3), .int .i64 ((rd_T156 l0 x19_1).f4)] 156 (0, 0)) hb; have n3_ := bst hb; clear HO_6; clear BK803; clear BK809; clear HB; have HO_6 := n0_; have BK803 := n1_; have BK809 := n2_; have HB := n3_; clear n0_ n1_ n2_ n3_; (try clear hb); have p17 : 0 ≤ (x19_1 : Int) := qD; have q17 : (x19_1 : Int) < ((x6_1.length : Int) : Int) := qD; obtain ⟨go17, co17, eo17, gb17, gl17, cl17, HG17⟩ := Kd.R_form HO_6.out (by omega); (first | cases eo17 | (injection eo17 with ea_ en_ ec_; (first | subst ea_ | (injection ea_ with ea_; subst ea_)); subst ec_; clear en_)); have GB17 := Aside0.mk gb17; have GG17 := Aside0.mk HG17; clear gb17 gl17 HG17; obtain ⟨hx17_0, hf17_0⟩ := Kd.R_celln 0 HO_6.out (x19_1 : Int) p17 q17; replace p17 := eq_true p17; replace q17 := eq_true q17; obtain ⟨hy24_, hz24_⟩ := Kd.R_celln 0 HO_6.out (x19_1 : Int) (qD) (qD); have HP24 := Kd.R_putg HO_6.out (x19_1 : Int) t810) | ((with_reducible refine gate_store (t := 3) (p := 37) rfl ?_); refine store_event (t := 3) (p := 37) (v := ?vo_w25) (w1 := (w23.setCell ⟨go17, (x19_1 : Int).toNat, none⟩ (.int .i64 t810))) ?hg ?ho ?hn ?hr ?_; (case ho => rfl); (case hg => rfl); (case hn => rfl); (case hr => first | (go_simp; done) | (go_simp; rfl)); intro w25 hw; have hg : w23.grownBy w25 (some go17) := (by rw [hw]; exact HP24.2); have hp_ : Kd.R (Kd.int .i64) 3 w25 w.heap.size (fun _ => True) (.slice (some ⟨go17, 0, none⟩) x6_1.length co22) y812 := (by rw [hw, Ny812.out]; exact HP24.1); clear HP24; have n0_ := Aside0.mk (hp_); have n1_ := Aside0.mk (blk_grown (g := gb803) (o := .cells #[.slice A1_0 l1_0.length c1_0, .slice A1_1 l1_1.length c1_1] 78 (0, 0)) qK hg (Kd.R_ne HO_6.out BK803.out (by decide))); have n2_ := Aside0.mk (blk_grown (g := gb809) (o := .cells #[.int .i64 ((rd_T156 l0 x19_1).f0), .int .i64 ((rd_T156 l0 x19_1).f1.f0), .int .i64 ((rd_T156 l0 x19_1).f1.f1), .string ((rd_T156 l0 x19_1).f1.f2), .string ((rd_T156 l0 x19_1).f2), .int .i64 ((rd_T156 l0 x19_1).f3), .int .i64 ((rd_T156 l0 x19_1).f4)] 156 (0, 0)) qK hg (Kd.R_ne HO_6.out BK809.out (by decide))); have n3_ := Aside0.mk ((by rw [hw]; exact below_set (HB.out) GB17.out : Below w.heap.size w w25)); clear HO_6; clear BK803; clear BK809; clear HB; have HO_6 := n0_; have BK803 := n1_; have BK809 := n2_; have HB := n3_; clear n0_ n1_ n2_ n3_; clear hg hw hp_))
           go_roundg k1
           case measure => have := HK1.out; omega
           case rel => exact ⟨(y812), (wrap64 (x19_1 + 1)), qE, H', ⟨by have := HK1.out; omega⟩, ⟨by (with_reducible repeat (first | apply Kd.R_alloc | apply Kd.R_drewN | apply Kd.R_drew)); exact HO_6.out⟩, ⟨qK⟩, ⟨qB⟩⟩
          exact absurd H (by simp)
         rw [if_neg c15] at H; have c15b0 := beq_eq_false_iff_ne.mpr c15; have c15b1 := bne_iff_ne.mpr c15; simp only [Option.some.injEq, Prod.mk.injEq] at H; obtain ⟨rfl, rfl⟩ := H; have p808 : 0 ≤ (x19_1 : Int) := qD; have q808 : x19_1 < (l0.length : Int) := qD; obtain ⟨ad808, e808, hx808_0, hx808_1, hx808_2, hx808_3, hx808_4, hx808_5, hx808_6⟩ := at_T156 (Kd.C_below HR0.out HB.out) x19_1 p808 q808; cases e808; replace p808 := eq_true p808; replace q808 := eq_true q808
         go_wp2_with (first | ((with_reducible refine gd 8 rfl ?_); refine bx 8 #[.int .i64 0, .int .i64 0, .int .i64 0, .string (⟨#[]⟩ : ByteArray), .string (⟨#[]⟩ : ByteArray), .int .i64 0, .int .i64 0] 156 ?_; intro gb809 hg w26 hbox hb; have BK809 := Aside0.mk (hbox); have GW809 := geS hg; have GE809 := geS hg; have NB803_809 := neS gb803 hg; have NB809_803 := neT gb803 hg; replace BK803 := kb gb803 hb; replace HO_6 := rb HO_6 hb; replace HB := bst hb; clear hb hbox hg; have := NB809_803.out; have := NB803_809.out; obtain ⟨_, _, _, _, _, _, _, _, _, _, _, _, _, _⟩ := cells7 BK809.out; obtain ⟨_, _, _, _⟩ := cells2 BK803.out; obtain ⟨Ao30, co30, eo30⟩ := Kd.R_slice HO_6.out; subst eo30) | ((with_reducible refine gc 91 rfl ?_); refine gl (some 28) #[.agg #[.slice A1_0 l1_0.length c1_0, .slice A1_1 l1_1.length c1_1], .agg #[.int .i64 ((rd_T156 l0 x19_1).f0), .int .i64 ((rd_T156 l0 x19_1).f1.f0), .int .i64 ((rd_T156 l0 x19_1).f1.f1), .string ((rd_T156 l0 x19_1).f1.f2), .string ((rd_T156 l0 x19_1).f2), .int .i64 ((rd_T156 l0 x19_1).f3), .int .i64 ((rd_T156 l0 x19_1).f4)], .slice Ao30 x6_1.length co30] Tryd.func91 ?_; (with_reducible refine (kind_Scope_node.calls k1 _ _ l1_0 _ _ l1_1 ((rd_T156 l0 x19_1).f0) ((rd_T156 l0 x19_1).f1.f0) ((rd_T156 l0 x19_1).f1.f1) ((rd_T156 l0 x19_1).f1.f2) ((rd_T156 l0 x19_1).f2) ((rd_T156 l0 x19_1).f3) ((rd_T156 l0 x19_1).f4) _ _ x6_1 t810 t811 _ ?side1 ?side2 ?side3 ?side4 ?side5 ?side6 A14.out).mono ?_); (case side1 => exact Kd.C_below HR1_0.out qB); (case side2 => exact HC1_0.out); (case side3 => exact Kd.C_below HR1_1.out qB); (case side4 => exact HC1_1.out); (case side5 => refine (Kd.R_reads' (e := 3) (base := w.heap.size) (ok := fun k_ => True) (n := x6_1.length) (c := co30) ?_).2.2; exact (by (with_reducible repeat (first | apply Kd.R_alloc | apply Kd.R_drewN | apply Kd.R_drew)); exact (Kd.R_mono (Kd.R_far (p := ⟨gb809, 6, none⟩) (Kd.R_far (p := ⟨gb809, 5, none⟩) (Kd.R_far (p := ⟨gb809, 4, none⟩) (Kd.R_far (p := ⟨gb809, 3, none⟩) (Kd.R_far (p := ⟨gb809, 2, none⟩) (Kd.R_far (p := ⟨gb809, 1, none⟩) (Kd.R_far (p := ⟨gb809, 0, none⟩) (Kd.R_types HO_6.out BK809.out (by decide)) (fun _ hk => hk.2) (.int .i64 ((rd_T156 l0 x19_1).f0))) (fun _ hk => hk.2) (.int .i64 ((rd_T156 l0 x19_1).f1.f0))) (fun _ hk => hk.2) (.int .i64 ((rd_T156 l0 x19_1).f1.f1))) (fun _ hk => hk.2) (.string ((rd_T156 l0 x19_1).f1.f2))) (fun _ hk => hk.2) (.string ((rd_T156 l0 x19_1).f2))) (fun _ hk => hk.2) (.int .i64 ((rd_T156 l0 x19_1).f3))) (fun _ hk => hk.2) (.int .i64 ((rd_T156 l0 x19_1).f4))) (fun _ h_ => h_.1)))); (case side6 => exact (Kd.R_reads' HO_6.out).2.1); rintro e w31 ⟨rfl, hb⟩; refine ⟨_, rfl, ?_⟩; have n0_ := Aside0.mk (Kd.R_below (by (with_reducible repeat (first | apply Kd.R_alloc | apply Kd.R_drewN | apply Kd.R_drew)); exact (Kd.R_mono (Kd.R_far (p := ⟨gb809, 6, none⟩) (Kd.R_far (p := ⟨gb809, 5, none⟩) (Kd.R_far (p := ⟨gb809, 4, none⟩) (Kd.R_far (p := ⟨gb809, 3, none⟩) (Kd.R_far (p := ⟨gb809, 2, none⟩) (Kd.R_far (p := ⟨gb809, 1, none⟩) (Kd.R_far (p := ⟨gb809, 0, none⟩) (Kd.R_types HO_6.out BK809.out (by decide)) (fun _ hk => hk.2) (.int .i64 ((rd_T156 l0 x19_1).f0))) (fun _ hk => hk.2) (.int .i64 ((rd_T156 l0 x19_1).f1.f0))) (fun _ hk => hk.2) (.int .i64 ((rd_T156 l0 x19_1).f1.f1))) (fun _ hk => hk.2) (.string ((rd_T156 l0 x19_1).f1.f2))) (fun _ hk => hk.2) (.string ((rd_T156 l0 x19_1).f2))) (fun _ hk => hk.2) (.int .i64 ((rd_T156 l0 x19_1).f3))) (fun _ hk => hk.2) (.int .i64 ((rd_T156 l0 x19_1).f4))) (fun _ h_ => h_.1))) hb); have n1_ := kb gb803 hb; have n2_ := kp gb809 (.cells #[.int .i64 ((rd_T156 l0 x19_1).f0), .int .i64 ((rd_T156 l0 x19_1).f1.f0), .int .i64 ((rd_T156 l0 x19_1).f1.f1), .string ((rd_T156 l0 x19_1).f1.f2), .string ((rd_T156 l0 x19_1).f2), .int .i64 ((rd_T156 l0 x19_1).f3), .int .i64 ((rd_T156 l0 x19_1).f4)] 156 (0, 0)) hb; have n3_ := bst hb; clear HO_6; clear BK803; clear BK809; clear HB; have HO_6 := n0_; have BK803 := n1_; have BK809 := n2_; have HB := n3_; clear n0_ n1_ n2_ n3_; (try clear hb)))
         go_ret2; exact ⟨qR, qB⟩
        exact absurd H (by simp)
       rw [if_neg c12] at H; exact absurd H (by simp)
      obtain ⟨ji32, hji32⟩ : ∃ j_ : Int, (wrap64 ((l0.length : Int) - 1)) = j_ := ⟨_, rfl⟩; replace H : (if 0 ≤ (ji32) then (if (ji32) < (x6_1.length : Int) then (some (rd x6_1 (ji32), 0)) else (none)) else (none)) = some (r1, r2) := by first | (rw [hji32] at H; exact H) | (simp only [hji32] at H ⊢; exact H)
      have hji32w : (IntKind.i64.wrap ((l0.length : Int) - 1)) = ji32 := (i64_w _).trans hji32; replace H := iD H
      rcases H with ⟨c33b0, H⟩ | ⟨c33b0, H⟩
      ·by_cases c34 : (ji32) < (x6_1.length : Int)
       ·rw [if_pos c34] at H; have c34b0 := decide_eq_true c34; clear c34; simp only [Option.some.injEq, Prod.mk.injEq] at H; obtain ⟨rfl, rfl⟩ := H; obtain ⟨Ao35, co35, eo35⟩ := Kd.R_slice HO_6.out; subst eo35; have p813 : 0 ≤ ((ji32) : Int) := qD; have q813 : (ji32) < (x6_1.length : Int) := qD; obtain ⟨ad813, e813, hx813_0⟩ := Kd.at_int (Kd.R_reads' HO_6.out).2.2 (ji32) p813 q813; cases e813; replace p813 := eq_true p813; replace q813 := eq_true q813
        go_wp2
        go_ret2; exact ⟨by first | rfl | (simp [errW_none, errW_some] <;> rfl) | (simp only [← hji32]; first | rfl | (simp [errW_none, errW_some] <;> rfl)) | (simp [*, errW_none, errW_some] <;> rfl), qB⟩
       rw [if_neg c34] at H; exact absurd H (by simp)
      exact absurd H (by simp)
   rw [if_neg c6] at H
   exact absurd H (by simp)
  rw [if_neg c5] at H
  exact absurd H (by simp)
 replace c4 := Bool.eq_false_iff.mpr c4
 subst c4
 rw [if_neg (show ¬ (false = true) by decide)] at H
 simp only [Option.some.injEq, Prod.mk.injEq] at H
 obtain ⟨rfl, rfl⟩ := H
 go_enter Tryd.func54, Tryd.ntmps54
 go_wp2_with (first | ((with_reducible refine gd 3 rfl ?_); refine bxx 3 #[.slice A1_0 l1_0.length c1_0, .slice A1_1 l1_1.length c1_1] 78 ?_; intro gb803 w36 BK803 GW803 HB) | ((with_reducible refine gc 58 rfl ?_); refine gl (some 12) #[.slice A0 l0.length c0] Tryd.func58 ?_; (with_reducible refine (expr_Expr_Right.calls k _ _ l0 false _ ?side1 ?side2 ?side3 A3.out).mono ?_); (case side1 => exact qC); (case side2 => exact HC0.out); (case side3 => exact Laid.below HLD.out qB); rintro e w37 ⟨rfl, hb⟩; refine ⟨_, rfl, ?_⟩; replace BK803 := kb gb803 hb; replace HB := bst hb; (try clear hb)))
 go_ret2
 exact ⟨qR, qB⟩
mutual
def whirligigref01_Result.j0 : Nat → Int → Int → Int → Bool → Option (Int)
 | 0, _, _, _, _ => none
 | k + 1, x0, x1, x2, x12 => if x12 = true then (some 2) else (if x0 = 2 then (whirligigref01_Result.j1 k x0 x1 x2 (x1 == 1)) else (whirligigref01_Result.j1 k x0 x1 x2 false))
def whirligigref01_Result.j1 : Nat → Int → Int → Int → Bool → Option (Int)
 | 0, _, _, _, _ => none
 | k + 1, x0, x1, x2, x18 => if x18 = true then (some 1) else (if x0 < 3 then (whirligigref01_Result.j2 k x0 x1 true) else (if x0 > 15 then (whirligigref01_Result.j2 k x0 x1 true) else (if x1 = x2 then (if x1 < 1 then (whirligigref01_Result.j2 k x0 x1 true) else (whirligigref01_Result.j2 k x0 x1 (decide (x1 > 3)))) else (whirligigref01_Result.j2 k x0 x1 true))))
def whirligigref01_Result.j2 : Nat → Int → Int → Bool → Option (Int)
 | 0, _, _, _ => none
 | k + 1, x0, x1, x37 => if x37 = true then (some 0) else (if x0 ≥ 14 then (if x1 = 2 then (whirligigref01_Result.j3 k x0 x1 true) else (if x0 = 12 then (whirligigref01_Result.j3 k x0 x1 true) else (whirligigref01_Result.j3 k x0 x1 (x0 == 13)))) else (if x0 = 12 then (whirligigref01_Result.j3 k x0 x1 true) else (whirligigref01_Result.j3 k x0 x1 (x0 == 13))))
def whirligigref01_Result.j3 : Nat → Int → Int → Bool → Option (Int)
 | 0, _, _, _ => none
 | k + 1, x0, x1, x51 => if x51 = true then (some 2) else (if x0 ≥ 8 then (if x0 ≤ 11 then (whirligigref01_Result.j4 k x0 x1 (x1 != 2)) else (whirligigref01_Result.j4 k x0 x1 false)) else (whirligigref01_Result.j4 k x0 x1 false))
def whirligigref01_Result.j4 : Nat → Int → Int → Bool → Option (Int)
 | 0, _, _, _ => none
 | k + 1, x0, x1, x61 => if x61 = true then (some 2) else (if x0 = 6 then (whirligigref01_Result.j5 k x0 x1 (x1 == 3)) else (whirligigref01_Result.j5 k x0 x1 false))
def whirligigref01_Result.j5 : Nat → Int → Int → Bool → Option (Int)
 | 0, _, _, _ => none
 | k + 1, x0, x1, x67 => if x67 = true then (some 3) else (if x0 ≥ 3 then (if x0 ≤ 7 then (if x1 = 1 then (some 1) else (some 0)) else (some 0)) else (some 0))
end
def whirligigref01_Result.f (k : Nat) (a0 : Int) (a1 : Int) (a2 : Int) : Option (Int) := if a0 = 1 then (whirligigref01_Result.j0 k a0 a1 a2 (a1 == 2)) else (whirligigref01_Result.j0 k a0 a1 a2 false)
mutual
def whirligigref04_Of.l0 : Nat → Int → List (S151) → Int → Int → Int → Int → ByteArray → ByteArray → Int → Int → Option (Int × Int × Int)
 | 0, _, _, _, _, _, _, _, _, _, _ => none
 | k + 1, x1, x2, x12, x873000, x873001, x873002, x873003, x873004, x873005, x873006 => if x12 < (x2.length : Int) then (if 0 ≤ x12 then (if ((rd_T151 x2 x12).f0).toList = x873004.toList then (some ((rd_T151 x2 x12).f1, 0, 0)) else (whirligigref04_Of.l0 k x1 x2 (wrap64 (x12 + 1)) x873000 x873001 x873002 x873003 x873004 x873005 x873006)) else (none)) else (some (0, 24, x1))
def whirligigref04_Of.l1 : Nat → Int → List ByteArray → Int → Int → Int → Int → ByteArray → ByteArray → Int → Int → Option (Int × Int × Int)
 | 0, _, _, _, _, _, _, _, _, _, _ => none
 | k + 1, x1, x3, x13, x873000, x873001, x873002, x873003, x873004, x873005, x873006 => if x13 < (x3.length : Int) then (if 0 ≤ x13 then (if (rdOf ByteArray.empty x3 x13).toList = x873004.toList then (some (2, 0, 0)) else (whirligigref04_Of.l1 k x1 x3 (wrap64 (x13 + 1)) x873000 x873001 x873002 x873003 x873004 x873005 x873006)) else (none)) else (some (0, 24, x1))
def whirligigref04_Of.j2 : Nat → List (S159) → Int → List (S151) → List ByteArray → Int → Int → Int → Int → Bool → Int → Int → Int → ByteArray → ByteArray → Int → Int → Option (Int × Int × Int)
 | 0, _, _, _, _, _, _, _, _, _, _, _, _, _, _, _, _ => none
 | k + 1, x0, x1, x2, x3, x14, x15, x16, x17, x85, x873000, x873001, x873002, x873003, x873004, x873005, x873006 => if x85 = true then ((whirligigref04_Of.f k x0 x873006 x2 x3).bind fun bt879 => (whirligigref04_Of.j3 k x1 x14 bt879.2.1 bt879.2.2 bt879.1 x873000 x873001 x873002 x873003 x873004 x873005 x873006)) else (whirligigref04_Of.j3 k x1 x14 x15 x16 x17 x873000 x873001 x873002 x873003 x873004 x873005 x873006)
def whirligigref04_Of.j3 : Nat → Int → Int → Int → Int → Int → Int → Int → Int → ByteArray → ByteArray → Int → Int → Option (Int × Int × Int)
 | 0, _, _, _, _, _, _, _, _, _, _, _, _ => none
 | k + 1, x1, x14, x15, x16, x17, x873000, x873001, x873002, x873003, x873004, x873005, x873006 => if x15 = 0 then ((whirligigref01_Result.f k x873000 x14 x17).bind fun t882 => (if t882 = 0 then (some (0, 20, x1)) else (some (t882, 0, 0)))) else (some (0, x15, x16))
def whirligigref04_Of.f : Nat → List (S159) → Int → List (S151) → List ByteArray → Option (Int × Int × Int)
 | 0, _, _, _, _ => none
 | k + 1, l0, a1, l2, l3 => if 0 ≤ a1 then (if a1 < (l0.length : Int) then (if ((rd_T159 l0 a1).f0) = 0 then (some ((rd_T159 l0 a1).f1.f0, 0, 0)) else (if ((rd_T159 l0 a1).f0) = 16 then (whirligigref04_Of.l0 k a1 l2 0 ((rd_T159 l0 a1).f0) ((rd_T159 l0 a1).f1.f0) ((rd_T159 l0 a1).f1.f1) ((rd_T159 l0 a1).f1.f2) ((rd_T159 l0 a1).f2) ((rd_T159 l0 a1).f3) ((rd_T159 l0 a1).f4)) else (if ((rd_T159 l0 a1).f0) = 17 then (whirligigref04_Of.l1 k a1 l3 0 ((rd_T159 l0 a1).f0) ((rd_T159 l0 a1).f1.f0) ((rd_T159 l0 a1).f1.f1) ((rd_T159 l0 a1).f1.f2) ((rd_T159 l0 a1).f2) ((rd_T159 l0 a1).f3) ((rd_T159 l0 a1).f4)) else ((whirligigref04_Of.f k l0 ((rd_T159 l0 a1).f3) l2 l3).bind fun bt876 => (if bt876.2.1 = 0 then (whirligigref04_Of.j2 k l0 a1 l2 l3 bt876.1 bt876.2.1 bt876.2.2 0 (decide (((rd_T159 l0 a1).f0) > 2)) ((rd_T159 l0 a1).f0) ((rd_T159 l0 a1).f1.f0) ((rd_T159 l0 a1).f1.f1) ((rd_T159 l0 a1).f1.f2) ((rd_T159 l0 a1).f2) ((rd_T159 l0 a1).f3) ((rd_T159 l0 a1).f4)) else (whirligigref04_Of.j2 k l0 a1 l2 l3 bt876.1 bt876.2.1 bt876.2.2 0 false ((rd_T159 l0 a1).f0) ((rd_T159 l0 a1).f1.f0) ((rd_T159 l0 a1).f1.f1) ((rd_T159 l0 a1).f1.f2) ((rd_T159 l0 a1).f2) ((rd_T159 l0 a1).f3) ((rd_T159 l0 a1).f4))))))) else (none)) else (none)
end
end Go.Proofs.YtbngfhlciebeeaaDoor.L
end
section
namespace Go.Proofs.YtbngfhlciebeeaaDoor.Sp
set_option linter.unusedVariables false
set_option linter.unusedSimpArgs false
open Go.RowKit Go.Proofs.YtbngfhlciebeeaaDoorW.PrintWords Go.Proofs.YtbngfhlciebeeaaDoorW.PrintMore Go.Proofs.YtbngfhlciebeeaaDoor.L
def resK (op a b : Int) : Int :=
  if op = 1 then (if a = 2 then 2 else 0)
  else if op = 2 then (if a = 1 then 1 else 0)
  else if op = 6 then (if a = b ∧ (a = 1 ∨ a = 3) then a else 0)
  else if op ≤ 7 then (if a = 1 ∧ b = 1 then 1 else 0)
  else if op ≤ 11 then (if a = b ∧ (a = 1 ∨ a = 3) then 2 else 0)
  else if op ≤ 13 then (if a = b ∧ 1 ≤ a ∧ a ≤ 3 then 2 else 0)
  else if a = 2 ∧ b = 2 then 2 else 0
theorem op_cases {op : Int} (h : 1 ≤ op ∧ op ≤ 15) : op = 1 ∨ op = 2 ∨ op = 3 ∨ op = 4 ∨ op = 5 ∨ op = 6 ∨ op = 7 ∨ op = 8 ∨ op = 9 ∨ op = 10 ∨ op = 11 ∨ op = 12 ∨ op = 13 ∨ op = 14 ∨ op = 15 := by omega
def vres (op a b : Int) : Int × Bool :=
  if op = 1 then (2, a == 2)
  else if op = 2 then (1, a == 1)
  else if op = 6 then (if a = b then (if a = 1 then (a, true) else (a, a == 3)) else (a, false))
  else if op ≤ 7 then (if a = 1 then (1, b == 1) else (1, false))
  else if op ≤ 11 then (if a = b then (if a = 1 then (2, true) else (2, a == 3)) else (2, false))
  else if op ≤ 13 then (if a = b then (if a ≥ 1 then (2, decide (a ≤ 3)) else (2, false)) else (2, false))
  else (if a = 2 then (2, b == 2) else (2, false))
theorem vResult_f {op : Int} (h : 1 ≤ op ∧ op ≤ 15) (a b : Int) (k : Nat) : val_Result.f (k + 3) op a b = some (vres op a b) := by
  rcases op_cases h with rfl | rfl | rfl | rfl | rfl | rfl | rfl | rfl | rfl | rfl | rfl | rfl | rfl | rfl | rfl
  all_goals (simp [val_Result.f, val_Result.j0, val_Result.j1, val_Result.j2, vres])
  all_goals (repeat' split)
  all_goals (first | rfl | (simp_all; done))
theorem vres_is {op : Int} (h : 1 ≤ op ∧ op ≤ 15) (a b : Int) : ((vres op a b).2 = true → (vres op a b).1 = resK op a b ∧ resK op a b ≠ 0) ∧ ((vres op a b).2 = false → resK op a b = 0) := by
  rcases op_cases h with rfl | rfl | rfl | rfl | rfl | rfl | rfl | rfl | rfl | rfl | rfl | rfl | rfl | rfl | rfl
  all_goals (simp [vres, resK])
  all_goals (repeat' split)
  all_goals (simp_all)
  all_goals (first | omega | (intros; omega) | (constructor <;> intros <;> omega))
theorem vResult_ev {op : Int} (h : 1 ≤ op ∧ op ≤ 15) (a b : Int) : Ev (fun k => val_Result.f k op a b) (vres op a b) := ⟨3, fun k hk => by obtain ⟨j, rfl⟩ : ∃ j, k = j + 3 := ⟨k - 3, by omega⟩; exact vResult_f h a b j⟩
theorem rResult_f {op : Int} (h : 1 ≤ op ∧ op ≤ 15) (a b : Int) (k : Nat) : whirligigref01_Result.f (k + 6) op a b = some (resK op a b) := by
  rcases op_cases h with rfl | rfl | rfl | rfl | rfl | rfl | rfl | rfl | rfl | rfl | rfl | rfl | rfl | rfl | rfl
  all_goals (simp [whirligigref01_Result.f, whirligigref01_Result.j0, whirligigref01_Result.j1, whirligigref01_Result.j2, whirligigref01_Result.j3, whirligigref01_Result.j4, whirligigref01_Result.j5, resK])
  all_goals (repeat' split)
  all_goals (simp_all)
  all_goals (first | omega | (intros; omega))
theorem rResult_ev {op : Int} (h : 1 ≤ op ∧ op ≤ 15) (a b : Int) : Ev (fun k => whirligigref01_Result.f k op a b) (resK op a b) := ⟨6, fun k hk => by obtain ⟨j, rfl⟩ : ∃ j, k = j + 6 := ⟨k - 6, by omega⟩; exact rResult_f h a b j⟩
def ref159 (x : S156) : S159 := ⟨x.f0, ⟨x.f1.f0, x.f1.f1, x.f1.f2⟩, x.f2, x.f3, x.f4⟩
def v151 (x : S118) : S151 := ⟨x.f0, x.f1⟩
theorem rd159 {l : List S156} {j : Nat} (h : j < l.length) : rd_T159 (l.map ref159) (j : Int) = ref159 l[j] := by
  unfold rd_T159
  rw [Int.toNat_natCast, List.getD_eq_getElem?_getD, List.getElem?_map, List.getElem?_eq_getElem h]
  rfl
theorem rd151 {l : List S118} {j : Nat} (h : j < l.length) : rd_T151 (l.map v151) (j : Int) = v151 l[j] := by
  unfold rd_T151
  rw [Int.toNat_natCast, List.getD_eq_getElem?_getD, List.getElem?_map, List.getElem?_eq_getElem h]
  rfl
theorem rd118' {l : List S118} {j : Nat} (h : j < l.length) : rd_T118 l (j : Int) = l[j] := by
  unfold rd_T118
  rw [Int.toNat_natCast, List.getD_eq_getElem?_getD, List.getElem?_eq_getElem h]
  rfl
def lookV (s : ByteArray) : List S118 → Option Int
  | [] => none
  | v :: vs => if v.f0 = s then some v.f1 else lookV s vs
theorem lookV_idx (s : ByteArray) : ∀ (vs : List S118), (match vs.findIdx? (fun x => decide (x.f0 = s)) with | some j => j < vs.length ∧ lookV s vs = some (vs.getD j ⟨⟨#[]⟩, 0⟩).f1 | none => lookV s vs = none)
  | [] => rfl
  | v :: vs => by
    have ih := lookV_idx s vs
    rw [List.findIdx?_cons]
    by_cases h : v.f0 = s
    · rw [decide_eq_true h]
      simp only [if_true]
      exact ⟨by simp, by simp [lookV, h]⟩
    · rw [decide_eq_false h]
      simp only [Bool.false_eq_true, if_false]
      cases hx : vs.findIdx? (fun x => decide (x.f0 = s)) with
      | none => rw [hx] at ih; simp [lookV, h]; exact ih
      | some j =>
        rw [hx] at ih
        simp only [Option.map_some, lookV, if_neg h]
        exact ⟨by simp; exact ih.1, by simpa using ih.2⟩
theorem find_eq (vs : List S118) (ss : List ByteArray) (s : ByteArray) : kind_Scope_find.f vs ss s = some (match lookV s vs with | some k => (k, true) | none => (0, false)) := by
  have h := lookV_idx s vs
  unfold kind_Scope_find.f
  cases hx : vs.findIdx? (fun x => decide (x.f0 = s)) with
  | none =>
    rw [hx] at h
    have : idxVar s vs = -1 := by unfold idxVar; rw [hx]
    rw [this, h]; rfl
  | some j =>
    rw [hx] at h
    have : idxVar s vs = (j : Int) := by unfold idxVar; rw [hx]
    obtain ⟨h1, h2⟩ := h
    rw [this, if_pos (by omega), rd118' h1, h2, List.getD_eq_getElem?_getD]
    simp only [List.getElem?_eq_getElem h1]
    rfl
theorem rfind_l0 (i : Int) (vs : List S118) (hv : vs.length ≤ 1000) (x : S156) : ∀ (d j : Nat), j ≤ vs.length → vs.length - j = d →
    Ev (fun k => whirligigref04_Of.l0 k i (vs.map v151) (j : Int) x.f0 x.f1.f0 x.f1.f1 x.f1.f2 x.f2 x.f3 x.f4) (match lookV x.f2 (vs.drop j) with | some k => (k, 0, 0) | none => (0, 24, i)) := by
  intro d
  induction d with
  | zero =>
    intro j hj hd
    refine Ev.succ ?_
    simp only [whirligigref04_Of.l0]
    rw [List.drop_eq_nil_of_le (by omega)]
    exact Ev.neg (by simp; omega) (Ev.some rfl)
  | succ d ih =>
    intro j hj hd
    have hjl : j < vs.length := by omega
    refine Ev.succ ?_
    simp only [whirligigref04_Of.l0]
    rw [rd151 hjl, up1 (by omega), List.drop_eq_getElem_cons hjl]
    refine Ev.pos (by simp; omega) (Ev.pos (by omega) ?_)
    by_cases h : vs[j].f0 = x.f2
    · simp only [lookV, if_pos h]
      exact Ev.pos (toL_inj.2 h) (Ev.some rfl)
    · simp only [lookV, if_neg h]
      exact Ev.neg (fun e => h (toL_inj.1 e)) (ih (j + 1) (by omega) (by omega))
theorem rdB {l : List ByteArray} {j : Nat} (h : j < l.length) : rdOf ByteArray.empty l (j : Int) = l[j] := by
  unfold rdOf
  rw [Int.toNat_natCast, List.getD_eq_getElem?_getD, List.getElem?_eq_getElem h]; rfl
def hasS (s : ByteArray) (ss : List ByteArray) : Bool := ss.any fun x => decide (x = s)
theorem hasS_cons (s x : ByteArray) (ss : List ByteArray) : hasS s (x :: ss) = (decide (x = s) || hasS s ss) := rfl
theorem index_l0 (ss : List ByteArray) (hs : ss.length ≤ 8796093022208) (s : ByteArray) : ∀ (d j : Nat), j ≤ ss.length → ss.length - j = d →
    ∃ r, Ev (fun k => slices_Index_string_string.l0 k ss s (ss.length : Int) (j : Int)) r ∧ decide (r ≥ 0) = hasS s (ss.drop j) := by
  intro d
  induction d with
  | zero =>
    intro j hj hd
    refine ⟨-1, Ev.succ ?_, ?_⟩
    · simp only [slices_Index_string_string.l0]
      exact Ev.neg (by omega) (Ev.some rfl)
    · rw [List.drop_eq_nil_of_le (by omega)]; rfl
  | succ d ih =>
    intro j hj hd
    have hjl : j < ss.length := by omega
    obtain ⟨r, hr, hd'⟩ := ih (j + 1) (by omega) (by omega)
    by_cases h : s = ss[j]
    · refine ⟨(j : Int), Ev.succ ?_, ?_⟩
      · simp only [slices_Index_string_string.l0]
        rw [rdB hjl]
        exact Ev.pos (by omega) (Ev.pos (by omega) (Ev.pos (by omega) (Ev.pos (toL_inj.2 h) (Ev.some rfl))))
      · rw [List.drop_eq_getElem_cons hjl, decide_eq_true (by omega), hasS_cons, decide_eq_true h.symm]; rfl
    · refine ⟨r, Ev.succ ?_, ?_⟩
      · simp only [slices_Index_string_string.l0]
        rw [rdB hjl, up1 (by omega)]
        exact Ev.pos (by omega) (Ev.pos (by omega) (Ev.pos (by omega) (Ev.neg (fun e => h (toL_inj.1 e)) hr)))
      · rw [hd', List.drop_eq_getElem_cons hjl, hasS_cons, decide_eq_false (Ne.symm h)]; rfl
theorem contains_ev (ss : List ByteArray) (hs : ss.length ≤ 8796093022208) (s : ByteArray) : Ev (fun k => slices_Contains_string_string.f k ss s) (hasS s ss) := by
  obtain ⟨r, hr, hd⟩ := index_l0 ss hs s ss.length 0 (by omega) (by omega)
  unfold slices_Contains_string_string.f
  refine Ev.bind (a := r) (by unfold slices_Index_string_string.f; exact hr) (Ev.some ?_)
  rw [hd, List.drop_zero]
theorem rfind_l1 (i : Int) (ss : List ByteArray) (hs : ss.length ≤ 8796093022208) (x : S156) : ∀ (d j : Nat), j ≤ ss.length → ss.length - j = d →
    Ev (fun k => whirligigref04_Of.l1 k i ss (j : Int) x.f0 x.f1.f0 x.f1.f1 x.f1.f2 x.f2 x.f3 x.f4) (if hasS x.f2 (ss.drop j) = true then (2, 0, 0) else (0, 24, i)) := by
  intro d
  induction d with
  | zero =>
    intro j hj hd
    refine Ev.succ ?_
    simp only [whirligigref04_Of.l1]
    rw [List.drop_eq_nil_of_le (by omega)]
    exact Ev.neg (by omega) (Ev.some rfl)
  | succ d ih =>
    intro j hj hd
    have hjl : j < ss.length := by omega
    refine Ev.succ ?_
    simp only [whirligigref04_Of.l1]
    rw [rdB hjl, up1 (by omega), List.drop_eq_getElem_cons hjl]
    refine Ev.pos (by omega) (Ev.pos (by omega) ?_)
    by_cases h : ss[j] = x.f2
    · rw [if_pos (by rw [hasS_cons, decide_eq_true h]; rfl)]
      exact Ev.pos (toL_inj.2 h) (Ev.some rfl)
    · rw [show hasS x.f2 (ss[j] :: ss.drop (j + 1)) = hasS x.f2 (ss.drop (j + 1)) by rw [hasS_cons, decide_eq_false h]; rfl]
      exact Ev.neg (fun e => h (toL_inj.1 e)) (ih (j + 1) (by omega) (by omega))
theorem less_asymm : ∀ x y : List UInt8, Op.bytesLess x y = true → Op.bytesLess y x = false
  | [], [], h => by simp [Op.bytesLess] at h
  | [], _ :: _, _ => by simp [Op.bytesLess]
  | _ :: _, [], h => by simp [Op.bytesLess] at h
  | a :: x, b :: y, h => by
    have ih := less_asymm x y
    simp only [Op.bytesLess, Bool.or_eq_true, Bool.and_eq_true, decide_eq_true_eq, beq_iff_eq] at h
    simp only [Op.bytesLess, Bool.or_eq_false_iff, Bool.and_eq_false_iff, decide_eq_false_iff_not, beq_eq_false_iff_ne]
    simp only [UInt8.lt_iff_toNat_lt] at h ⊢
    rcases h with h | ⟨h1, h2⟩
    · exact ⟨by omega, Or.inl (fun e => by subst e; omega)⟩
    · subst h1
      exact ⟨by omega, Or.inr (ih h2)⟩
def ltV (a b : S103) : Bool := if a.f0 = 3 then Op.bytesLess a.f2.toList b.f2.toList else decide (a.f1 < b.f1)
theorem val_size {v : S103} (h : ValOk v) : v.f2.size ≤ 48 := by
  rcases h with ⟨_, h⟩ | ⟨_, _, h⟩ | ⟨_, _, h⟩
  · rw [h]; decide
  · rw [h]; decide
  · unfold PlainS at h
    simp only [Bool.and_eq_true, decide_eq_true_eq] at h
    exact h.2
theorem before_l0 (a b : S103) (ha : a.f2.size ≤ 1000) (hb : b.f2.size ≤ 1000) : ∀ (d j : Nat), a.f2.size - j = d → j ≤ a.f2.size → j ≤ b.f2.size →
    Ev (fun k => whirligigref01_before.l0 k (j : Int) a.f0 a.f1 a.f2 b.f0 b.f1 b.f2) (Op.bytesLess (a.f2.data.toList.drop j) (b.f2.data.toList.drop j)) := by
  have la := len_size a.f2
  have lb := len_size b.f2
  intro d
  induction d with
  | zero =>
    intro j hd hja hjb
    refine Ev.succ ?_
    simp only [whirligigref01_before.l0]
    refine Ev.neg (by omega) (Ev.succ ?_)
    simp only [whirligigref01_before.j1]
    refine Ev.neg (by decide) (Ev.some ?_)
    rw [List.drop_eq_nil_of_le (by omega)]
    by_cases h : j < b.f2.size
    · rw [drop_at (by omega), decide_eq_true (by omega)]; rfl
    · rw [List.drop_eq_nil_of_le (by omega), decide_eq_false (by omega)]; rfl
  | succ d ih =>
    intro j hd hja hjb
    refine Ev.succ ?_
    simp only [whirligigref01_before.l0]
    refine Ev.pos (by omega) (Ev.succ ?_)
    simp only [whirligigref01_before.j1]
    rw [drop_at (L := a.f2.data.toList) (by omega)]
    by_cases h : j < b.f2.size
    · rw [decide_eq_true (show (j : Int) < (b.f2.size : Int) by omega), drop_at (L := b.f2.data.toList) (by omega), bt_nat _ _ (by omega), bt_nat _ _ h, up1 (by omega)]
      refine Ev.pos rfl (Ev.pos (by omega) (Ev.pos (by omega) (Ev.pos (by omega) ?_)))
      simp only [Op.bytesLess]
      generalize a.f2.data.toList.getD j 0 = x
      generalize b.f2.data.toList.getD j 0 = y
      by_cases e : x = y
      · subst e
        have h1 : ¬ x < x := by rw [UInt8.lt_iff_toNat_lt]; omega
        rw [decide_eq_false h1, beq_self_eq_true, Bool.false_or, Bool.true_and]
        exact Ev.pos rfl (ih (j + 1) (by omega) (by omega) (by omega))
      · have h1 : ¬ ((x.toNat : Int) = (y.toNat : Int)) := fun h => e (UInt8.toNat_inj.1 (by omega))
        refine Ev.neg h1 (Ev.some ?_)
        rw [beq_eq_false_iff_ne.2 e, Bool.false_and, Bool.or_false]
        exact decide_eq_decide.2 (by rw [UInt8.lt_iff_toNat_lt]; omega)
    · rw [decide_eq_false (show ¬ (j : Int) < (b.f2.size : Int) by omega), show b.f2.data.toList.drop j = [] from List.drop_eq_nil_of_le (by omega)]
      refine Ev.neg (by decide) (Ev.some ?_)
      rw [decide_eq_false (by omega)]; rfl
theorem before_ev {a b : S103} (ha : ValOk a) (hb : ValOk b) : Ev (fun k => whirligigref01_before.f k a.f0 a.f1 a.f2 b.f0 b.f1 b.f2) (ltV a b) := by
  have h1 := val_size ha
  have h2 := val_size hb
  unfold whirligigref01_before.f ltV
  by_cases h : a.f0 = 3
  · rw [if_pos h, ByteArray.toList_eq, ByteArray.toList_eq]
    exact Ev.pos h (before_l0 a b (by omega) (by omega) a.f2.size 0 (by omega) (by omega) (by omega))
  · rw [if_neg h]
    exact Ev.neg h (Ev.some rfl)
def cmpI (a b : Int) : Int := if a < b then -1 else if a > b then 1 else 0
def cmpS (a b : ByteArray) : Int := if Op.bytesLess a.toList b.toList = true then -1 else if Op.bytesLess b.toList a.toList = true then 1 else 0
theorem cmpI_eq (a b : Int) : cmp_Compare_int64.f a b = some (cmpI a b) := by
  unfold cmp_Compare_int64.f cmp_isNaN_int64.f cmpI
  rw [bne_self_eq_false, bne_self_eq_false]
  simp only [Option.bind_some]
  rw [if_neg (by decide), if_neg (by decide)]
  split
  · rfl
  · split <;> rfl
theorem cmpS_eq (a b : ByteArray) : cmp_Compare_string.f a b = some (cmpS a b) := by
  unfold cmp_Compare_string.f cmp_isNaN_string.f cmpS
  rw [bne_self_eq_false, bne_self_eq_false]
  simp only [Option.bind_some]
  rw [if_neg (by decide), if_neg (by decide)]
  split
  · rfl
  · split <;> rfl
theorem cmpOr_ev (x y : Int) : Ev (fun k => cmp_Or_int.f k [x, y]) (if x = 0 then y else x) := by
  unfold cmp_Or_int.f
  refine Ev.succ ?_
  simp only [cmp_Or_int.l0]
  refine Ev.pos (by simp) (Ev.pos (by decide) (Ev.pos (by simp) ?_))
  rw [show rd [x, y] 0 = x from rfl]
  by_cases h : x = 0
  · rw [if_pos h]
    refine Ev.pos h (Ev.succ ?_)
    rw [show wrap64 (0 + 1) = 1 from wrap_at (by decide) (by decide)]
    simp only [cmp_Or_int.l0]
    refine Ev.pos (by simp) (Ev.pos (by decide) (Ev.pos (by simp) ?_))
    rw [show rd [x, y] 1 = y from rfl]
    by_cases h2 : y = 0
    · refine Ev.pos h2 (Ev.succ ?_)
      rw [show wrap64 (1 + 1) = 2 from wrap_at (by decide) (by decide)]
      simp only [cmp_Or_int.l0]
      exact Ev.neg (by simp) (Ev.some h2.symm)
    · exact Ev.neg h2 (Ev.some rfl)
  · rw [if_neg h]
    exact Ev.neg h (Ev.some rfl)
theorem compare_ev (a b : S103) : Ev (fun k => val_compare.f k a.f0 a.f1 a.f2 b.f0 b.f1 b.f2) (if cmpI a.f1 b.f1 = 0 then cmpS a.f2 b.f2 else cmpI a.f1 b.f1) := by
  unfold val_compare.f
  exact Ev.bind_some (cmpI_eq _ _) (Ev.bind_some (cmpS_eq _ _) (Ev.bind (cmpOr_ev _ _) (Ev.some rfl)))
theorem compare_lt {a b : S103} (ha : ValOk a) (hb : ValOk b) (hk : a.f0 = b.f0 ∧ (a.f0 = 1 ∨ a.f0 = 3)) {c : Int} (hc : c = if cmpI a.f1 b.f1 = 0 then cmpS a.f2 b.f2 else cmpI a.f1 b.f1) :
    decide (c < 0) = ltV a b ∧ decide (c > 0) = ltV b a ∧ decide (c ≤ 0) = !(ltV b a) ∧ decide (c ≥ 0) = !(ltV a b) := by
  obtain ⟨hk1, hk2⟩ := hk
  have hself : ∀ x : List UInt8, Op.bytesLess x x = false := fun x => by
    cases h : Op.bytesLess x x with
    | false => rfl
    | true => have := less_asymm x x h; rw [h] at this; exact this
  rcases hk2 with hk2 | hk2
  · have e1 : a.f2 = ⟨#[]⟩ := by rcases ha with h | h | h <;> first | exact h.2 | exact h.2.2 | omega
    have e2 : b.f2 = ⟨#[]⟩ := by rcases hb with h | h | h <;> first | exact h.2 | exact h.2.2 | omega
    have h0 : cmpS a.f2 b.f2 = 0 := by rw [e1, e2]; unfold cmpS; rw [hself]; rfl
    rw [h0] at hc
    have hc' : c = cmpI a.f1 b.f1 := by rw [hc]; split <;> omega
    unfold ltV
    rw [if_neg (by omega), if_neg (by omega), hc']
    unfold cmpI
    by_cases g1 : a.f1 < b.f1
    · rw [if_pos g1, decide_eq_true g1, decide_eq_false (show ¬ b.f1 < a.f1 by omega)]; decide
    · rw [if_neg g1]
      by_cases g2 : a.f1 > b.f1
      · rw [if_pos g2, decide_eq_false g1, decide_eq_true (show b.f1 < a.f1 by omega)]; decide
      · rw [if_neg g2, decide_eq_false g1, decide_eq_false (show ¬ b.f1 < a.f1 by omega)]; decide
  · have e1 : a.f1 = 0 := by rcases ha with h | h | h <;> first | exact h.2.1 | omega
    have e2 : b.f1 = 0 := by rcases hb with h | h | h <;> first | exact h.2.1 | omega
    have h0 : cmpI a.f1 b.f1 = 0 := by rw [e1, e2]; rfl
    rw [h0, if_pos rfl] at hc
    unfold ltV
    rw [if_pos hk2, if_pos (by omega), hc]
    unfold cmpS
    cases g1 : Op.bytesLess a.f2.toList b.f2.toList with
    | true => rw [less_asymm _ _ g1, if_pos rfl]; decide
    | false =>
      rw [if_neg (by decide)]
      cases g2 : Op.bytesLess b.f2.toList a.f2.toList with
      | true => rw [if_pos rfl]; decide
      | false => rw [if_neg (by decide)]; decide
def trR (p : Bool) : R4 := if p = true then (2, 1, ⟨#[]⟩, 0) else (2, 0, ⟨#[]⟩, 0)
def joinR (s t : ByteArray) : R4 := if s.size + t.size > 48 then (0, 0, ⟨#[]⟩, 15) else (3, 0, s ++ t, 0)
def reckR (op : Int) (a b : S103) : R4 :=
  if op = 1 then trR (a.f1 == 0)
  else if op = 2 then ovR (-a.f1)
  else if op = 3 then ovR (a.f1 * b.f1)
  else if op = 4 then divR a.f1 b.f1
  else if op = 5 then remR a.f1 b.f1
  else if op = 6 then (if a.f0 = 3 then joinR a.f2 b.f2 else ovR (a.f1 + b.f1))
  else if op = 7 then ovR (a.f1 - b.f1)
  else if op = 8 then trR (ltV a b)
  else if op = 9 then trR (!(ltV b a))
  else if op = 10 then trR (ltV b a)
  else if op = 11 then trR (!(ltV a b))
  else if op = 12 then trR (a.f0 == b.f0 && (a.f1 == b.f1 && (a.f2.toList == b.f2.toList)))
  else if op = 13 then trR (!(a.f0 == b.f0) || (!(a.f1 == b.f1) || (!(a.f2.toList == b.f2.toList))))
  else if op = 14 then trR (a.f1 != 0 && b.f1 != 0)
  else trR (a.f1 != 0 || b.f1 != 0)
theorem vTruth (p : Bool) : ((val_Truth.f p).bind fun bt => (some (bt.1, bt.2.1, bt.2.2, (0 : Int)) : Option R4)) = some (trR p) := by cases p <;> rfl
theorem rTruth (p : Bool) : whirligigref01_truth.f p = some (trR p) := by cases p <;> rfl
theorem vJoin {s t : ByteArray} (hs : s.size ≤ 1000) (ht : t.size ≤ 1000) : val_join.f s t = some (joinR s t) := by
  unfold val_join.f joinR
  rw [wrap_at (by omega) (by omega)]
  by_cases h : s.size + t.size > 48
  · rw [if_pos h, if_pos (by omega)]
  · rw [if_neg h, if_neg (by omega), if_pos (by omega)]; rfl
theorem vOrder (op c : Int) : ((val_order.f op c).bind fun bt => (some (bt.1, bt.2.1, bt.2.2, (0 : Int)) : Option R4)) = some (trR (if op = 8 then decide (c < 0) else if op = 9 then decide (c ≤ 0) else if op = 10 then decide (c > 0) else decide (c ≥ 0))) := by
  unfold val_order.f
  by_cases h8 : op = 8
  · rw [if_pos h8, if_pos h8]; cases decide (c < 0) <;> rfl
  rw [if_neg h8, if_neg h8]
  by_cases h9 : op = 9
  · rw [if_pos h9, if_pos h9]; cases decide (c ≤ 0) <;> rfl
  rw [if_neg h9, if_neg h9]
  by_cases h10 : op = 10
  · rw [if_pos h10, if_pos h10]; cases decide (c > 0) <;> rfl
  rw [if_neg h10, if_neg h10]; cases decide (c ≥ 0) <;> rfl
theorem resK_kinds {op : Int} {a b : Int} (h : resK op a b ≠ 0) (ho : 3 ≤ op ∧ op ≤ 15) : a = b ∧ ((3 ≤ op ∧ op ≤ 5 ∨ op = 7) → a = 1) ∧ (op = 6 → a = 1 ∨ a = 3) ∧ (8 ≤ op → op ≤ 11 → a = 1 ∨ a = 3) ∧ (14 ≤ op → a = 2) := by
  unfold resK at h
  rw [if_neg (by omega), if_neg (by omega)] at h
  by_cases h6 : op = 6
  · rw [if_pos h6] at h
    by_cases g : a = b ∧ (a = 1 ∨ a = 3)
    · exact ⟨g.1, by omega, fun _ => g.2, by omega, by omega⟩
    · rw [if_neg g] at h; omega
  rw [if_neg h6] at h
  by_cases h7 : op ≤ 7
  · rw [if_pos h7] at h
    by_cases g : a = 1 ∧ b = 1
    · exact ⟨by omega, by omega, by omega, by omega, by omega⟩
    · rw [if_neg g] at h; omega
  rw [if_neg h7] at h
  by_cases h11 : op ≤ 11
  · rw [if_pos h11] at h
    by_cases g : a = b ∧ (a = 1 ∨ a = 3)
    · exact ⟨g.1, by omega, by omega, fun _ _ => g.2, by omega⟩
    · rw [if_neg g] at h; omega
  rw [if_neg h11] at h
  by_cases h13 : op ≤ 13
  · rw [if_pos h13] at h
    by_cases g : a = b ∧ 1 ≤ a ∧ a ≤ 3
    · exact ⟨g.1, by omega, by omega, by omega, by omega⟩
    · rw [if_neg g] at h; omega
  rw [if_neg h13] at h
  by_cases g : a = 2 ∧ b = 2
  · exact ⟨by omega, by omega, by omega, by omega, by omega⟩
  · rw [if_neg g] at h; omega
theorem val_bit {v : S103} (h : ValOk v) (h2 : v.f0 = 2) : v.f1 = 0 ∨ v.f1 = 1 := by
  rcases h with h | h | h
  · omega
  · exact h.2.1
  · omega
section
variable {a b : S103} (ha : ValOk a) (hb : ValOk b) (ia : Opn.I64 a.f1) (ib : Opn.I64 b.f1)
theorem vj1 (ha : ValOk a) (hb : ValOk b) (ia : Opn.I64 a.f1) (ib : Opn.I64 b.f1) {op : Int} (ho : 3 ≤ op ∧ op ≤ 15) (hr : resK op a.f0 b.f0 ≠ 0) : Ev (fun k => val_Reckon.j1 k op false a.f0 a.f1 a.f2 b.f0 b.f1 b.f2) (reckR op a b) := by
  obtain ⟨k1, k2, k3, k4, k5⟩ := resK_kinds hr ho
  have sa := val_size ha
  have sb := val_size hb
  have cmp := fun h => compare_lt ha hb ⟨k1, h⟩ rfl
  rcases op_cases (show 1 ≤ op ∧ op ≤ 15 by omega) with rfl | rfl | rfl | rfl | rfl | rfl | rfl | rfl | rfl | rfl | rfl | rfl | rfl | rfl | rfl
  · omega
  · omega
  all_goals
    refine Ev.succ ?_
    simp only [val_Reckon.j1, bind4, vTruth]
    repeat (first | refine Ev.pos (by decide) ?_ | refine Ev.neg (by decide) ?_)
    refine Ev.succ ?_
    simp only [val_Reckon.j2, bind4, vTruth]
    repeat (first | refine Ev.pos (by decide) ?_ | refine Ev.neg (by decide) ?_)
  · exact Ev.congr (Ev.const (fun _ => rfl)) (fun k => (vMul ia ib k).trans rfl)
  · exact ⟨1, fun k hk => by obtain ⟨j, rfl⟩ : ∃ j, k = j + 1 := ⟨k - 1, by omega⟩; exact vDiv ia ib j⟩
  · exact ⟨1, fun k hk => by obtain ⟨j, rfl⟩ : ∃ j, k = j + 1 := ⟨k - 1, by omega⟩; exact vRem j⟩
  · by_cases h3 : a.f0 = 3
    · exact Ev.pos h3 (Ev.const (fun k => (vJoin (by omega) (by omega)).trans (congrArg some (if_pos h3).symm)))
    · exact Ev.neg h3 (Ev.const (fun k => (vAdd ia ib k).trans (congrArg some (if_neg h3).symm)))
  · exact Ev.const (fun k => vSub ia ib k)
  · refine Ev.bind (compare_ev a b) (Ev.const (fun k => (vOrder 8 _).trans ?_))
    rw [if_pos rfl, (cmp (k4 (by decide) (by decide))).1]; rfl
  · refine Ev.bind (compare_ev a b) (Ev.const (fun k => (vOrder 9 _).trans ?_))
    rw [if_neg (by decide), if_pos rfl, (cmp (k4 (by decide) (by decide))).2.2.1]; rfl
  · refine Ev.bind (compare_ev a b) (Ev.const (fun k => (vOrder 10 _).trans ?_))
    rw [if_neg (by decide), if_neg (by decide), if_pos rfl, (cmp (k4 (by decide) (by decide))).2.1]; rfl
  · refine Ev.bind (compare_ev a b) (Ev.const (fun k => (vOrder 11 _).trans ?_))
    rw [if_neg (by decide), if_neg (by decide), if_neg (by decide), (cmp (k4 (by decide) (by decide))).2.2.2]; rfl
  · exact Ev.const (fun _ => rfl)
  · exact Ev.const (fun _ => rfl)
  · by_cases h0 : a.f1 = 0
    · exact Ev.pos h0 (Ev.some (by show _ = trR (a.f1 != 0 && b.f1 != 0); rw [h0]; rfl))
    · exact Ev.neg h0 (Ev.some (by show _ = trR (a.f1 != 0 && b.f1 != 0); rw [bne_iff_ne.2 h0]; rfl))
  · by_cases h0 : a.f1 = 0
    · exact Ev.pos h0 (Ev.some (by show _ = trR (a.f1 != 0 || b.f1 != 0); rw [h0]; rfl))
    · exact Ev.neg h0 (Ev.some (by show _ = trR (a.f1 != 0 || b.f1 != 0); rw [bne_iff_ne.2 h0]; rfl))
theorem vReckon2 (ha : ValOk a) (hb : ValOk b) (ia : Opn.I64 a.f1) (ib : Opn.I64 b.f1) {op : Int} (ho : 3 ≤ op ∧ op ≤ 15) : Ev (fun k => val_Reckon.f k op a.f0 a.f1 a.f2 [b]) (if resK op a.f0 b.f0 = 0 then (0, 0, ⟨#[]⟩, 20) else reckR op a b) := by
  have ho' : 1 ≤ op ∧ op ≤ 15 := by omega
  have hv := vres_is ho' a.f0 b.f0
  unfold val_Reckon.f
  refine Ev.pos (by simp) (Ev.pos (by simp) (Ev.succ ?_))
  simp only [val_Reckon.j0]
  rw [show rd_T103 [b] 0 = b from rfl]
  refine Ev.bind (vResult_ev ho' a.f0 b.f0) ?_
  cases hb2 : (vres op a.f0 b.f0).2 with
  | false =>
    rw [if_pos (hv.2 hb2)]
    refine Ev.neg (by decide) (Ev.succ ?_)
    simp only [val_Reckon.j1]
    exact Ev.pos trivial (Ev.some rfl)
  | true =>
    rw [if_neg (hv.1 hb2).2]
    refine Ev.pos rfl (Ev.pos (by simp) (Ev.neg (by simp) ?_))
    rw [decide_eq_false (show ¬ op ≤ 2 by omega)]
    exact vj1 ha hb ia ib ho (hv.1 hb2).2
theorem vReckon1 (ia : Opn.I64 a.f1) {op : Int} (ho : op = 1 ∨ op = 2) (z : S103) : Ev (fun k => val_Reckon.f k op a.f0 a.f1 a.f2 []) (if resK op a.f0 0 = 0 then (0, 0, ⟨#[]⟩, 20) else reckR op a z) := by
  have ho' : 1 ≤ op ∧ op ≤ 15 := by omega
  have hv := vres_is ho' a.f0 0
  unfold Opn.I64 at ia
  unfold val_Reckon.f
  refine Ev.neg (by simp) (Ev.succ ?_)
  simp only [val_Reckon.j0]
  refine Ev.bind (vResult_ev ho' a.f0 0) ?_
  cases hb2 : (vres op a.f0 0).2 with
  | false =>
    rw [if_pos (hv.2 hb2)]
    refine Ev.neg (by decide) (Ev.succ ?_)
    simp only [val_Reckon.j1]
    exact Ev.pos trivial (Ev.some rfl)
  | true =>
    rw [if_neg (hv.1 hb2).2]
    refine Ev.pos rfl (Ev.neg (by simp) (Ev.neg (by omega) (Ev.pos (by simp) (Ev.succ ?_))))
    simp only [val_Reckon.j1, bind4, vTruth]
    refine Ev.neg (by decide) ?_
    rcases ho with rfl | rfl
    · exact Ev.pos (by decide) (Ev.some rfl)
    · refine Ev.neg (by decide) (Ev.pos (by decide) (Ev.const (fun k => ?_)))
      show _ = some (ovR (-a.f1))
      by_cases h : a.f1 = -9223372036854775808
      · exact over_d (fun _ => by omega) (fun h' => by rw [beq_eq_false_iff_ne] at h'; exact absurd h h')
      · exact over_d (fun h' => absurd (beq_iff_eq.1 h') h) (fun _ => ⟨by omega, by omega, wrap_at (by omega) (by omega)⟩)
theorem rj0 (ha : ValOk a) (hb : ValOk b) (ia : Opn.I64 a.f1) (ib : Opn.I64 b.f1) {op : Int} (ho : 6 ≤ op ∧ op ≤ 15) (hr : resK op a.f0 b.f0 ≠ 0) : Ev (fun k => whirligigref01_Reckon.j0 k op op false a.f0 a.f1 a.f2 b.f0 b.f1 b.f2) (reckR op a b) := by
  obtain ⟨k1, k2, k3, k4, k5⟩ := resK_kinds hr (by omega)
  have sa := val_size ha
  have sb := val_size hb
  rcases op_cases (show 1 ≤ op ∧ op ≤ 15 by omega) with rfl | rfl | rfl | rfl | rfl | rfl | rfl | rfl | rfl | rfl | rfl | rfl | rfl | rfl | rfl
  · omega
  · omega
  · omega
  · omega
  · omega
  all_goals
    refine Ev.succ ?_
    simp only [whirligigref01_Reckon.j0, bind4, rTruth]
    repeat (first | refine Ev.pos (by decide) ?_ | refine Ev.neg (by decide) ?_)
  · by_cases h1 : a.f0 = 1
    · exact Ev.pos h1 (Ev.const (fun k => (rSum ia ib).trans (congrArg some (if_neg (show ¬ a.f0 = 3 by omega)).symm)))
    · have h3 : a.f0 = 3 := by have := k3 rfl; omega
      refine Ev.neg h1 ?_
      show Ev _ (if a.f0 = 3 then joinR a.f2 b.f2 else ovR (a.f1 + b.f1))
      rw [if_pos h3, wrap_at (by omega) (by omega)]
      unfold joinR
      by_cases g : a.f2.size + b.f2.size > 48
      · rw [if_pos g]; exact Ev.pos (by omega) (Ev.some rfl)
      · rw [if_neg g]; exact Ev.neg (by omega) (Ev.pos (by omega) (Ev.some rfl))
  · exact Ev.const (fun k => rLess ia ib)
  · exact Ev.bind (before_ev ha hb) (Ev.some rfl)
  · exact Ev.bind (before_ev hb ha) (Ev.some rfl)
  · exact Ev.bind (before_ev hb ha) (Ev.some rfl)
  · exact Ev.bind (before_ev ha hb) (Ev.some rfl)
  · exact Ev.const (fun _ => rfl)
  · exact Ev.const (fun _ => rfl)
  · have e2 := val_bit hb (by have := k5 (by decide); omega)
    rcases val_bit ha (k5 (by decide)) with e | e
    · exact Ev.neg (by omega) (Ev.some (by show _ = trR (a.f1 != 0 && b.f1 != 0); rw [e]; rfl))
    · refine Ev.pos e (Ev.some ?_)
      show _ = trR (a.f1 != 0 && b.f1 != 0)
      rcases e2 with e2 | e2 <;> rw [e, e2] <;> rfl
  · have e2 := val_bit hb (by have := k5 (by decide); omega)
    rcases val_bit ha (k5 (by decide)) with e | e
    · refine Ev.neg (by omega) (Ev.some ?_)
      show _ = trR (a.f1 != 0 || b.f1 != 0)
      rcases e2 with e2 | e2 <;> rw [e, e2] <;> rfl
    · exact Ev.pos e (Ev.some (by show _ = trR (a.f1 != 0 || b.f1 != 0); rw [e]; rfl))
theorem rReckon (ha : ValOk a) (hb : ValOk b) (ia : Opn.I64 a.f1) (ib : Opn.I64 b.f1) {op : Int} (ho : 3 ≤ op ∧ op ≤ 15) (hr : resK op a.f0 b.f0 ≠ 0) : Ev (fun k => whirligigref01_Reckon.f k op a.f0 a.f1 a.f2 b.f0 b.f1 b.f2) (reckR op a b) := by
  unfold whirligigref01_Reckon.f
  simp only [bind4]
  refine Ev.neg (by omega) (Ev.neg (by omega) ?_)
  by_cases h3 : op = 3
  · subst h3; exact Ev.pos rfl (times_ev ia ib)
  refine Ev.neg h3 ?_
  by_cases h4 : op = 4
  · subst h4
    refine Ev.pos rfl (Ev.succ ?_)
    simp only [whirligigref01_Reckon.j0, bind4]
    exact Ev.pos (by decide) ⟨1, fun k hk => by obtain ⟨j, rfl⟩ : ∃ j, k = j + 1 := ⟨k - 1, by omega⟩; exact rDiv ia ib j⟩
  refine Ev.neg h4 ?_
  by_cases h5 : op = 5
  · subst h5
    refine Ev.succ ?_
    simp only [whirligigref01_Reckon.j0, bind4]
    exact Ev.pos (by decide) ⟨1, fun k hk => by obtain ⟨j, rfl⟩ : ∃ j, k = j + 1 := ⟨k - 1, by omega⟩; exact rRem ia ib j⟩
  rw [beq_eq_false_iff_ne.2 h5]
  exact rj0 ha hb ia ib (by omega) hr
theorem rReckon1 (ia : Opn.I64 a.f1) {op : Int} (ho : op = 1 ∨ op = 2) (z : S103) : Ev (fun k => whirligigref01_Reckon.f k op a.f0 a.f1 a.f2 0 0 (⟨#[]⟩ : ByteArray)) (reckR op a z) := by
  unfold whirligigref01_Reckon.f
  simp only [bind4, rTruth]
  rcases ho with rfl | rfl
  · exact Ev.pos rfl (Ev.some rfl)
  · refine Ev.neg (by decide) (Ev.pos rfl (Ev.const (fun k => (rLess (a := 0) ⟨by decide, by decide⟩ ia).trans ?_)))
    show _ = some (ovR (-a.f1))
    rw [Int.zero_sub]
end
end Go.Proofs.YtbngfhlciebeeaaDoor.Sp
end
