/- Printed and hand-written steps towards the row (KindForms), those that it reaches. -/
import Derived.Test.YtbngfhlciebeeaaDoorKindFormsG4
import Derived.Test.YtbngfhlciebeeaaDoorKindFormsG5
import Derived.Test.YtbngfhlciebeeaaDoorKindFormsG26
import Derived.Test.YtbngfhlciebeeaaDoorKindFormsG21
import Derived.Test.YtbngfhlciebeeaaDoorKindFormsLxf51
section
namespace Go.Proofs.YtbngfhlciebeeaaDoor.L
open Go.RowKit Go.Proofs.YtbngfhlciebeeaaDoorW.PrintWords Go.Proofs.YtbngfhlciebeeaaDoorW.PrintLast Go.Proofs.YtbngfhlciebeeaaDoorW.PrintMore
attribute [local go_sem] max2_int min2_int max_two min_two max_three min_three max_four min_four   -- for this text's walks alone
set_option linter.unusedVariables false
set_option linter.unusedSimpArgs false
def whirligiglaw04_vars.l0 : Nat → List (S118) → List (S151) → List (S118) → Int → Int → Option ((List (S151)) × Bool)
 | 0, _, _, _, _, _ => none
 | k + 1, x0, x4, x7, x8, x9 => if x9 < x8 then (if 0 ≤ x9 then (if x9 < (x7.length : Int) then (if ((rd_T118 x7 x9).f1) < 1 then (some (([] : List (S151)), false)) else (if ((rd_T118 x7 x9).f1) > 3 then (some (([] : List (S151)), false)) else (if x4.length < 5864062014805 then (whirligiglaw04_vars.l0 k x0 (x4 ++ [(⟨(rd_T118 x7 x9).f0, (rd_T118 x7 x9).f1⟩ : S151)]) x7 x8 (wrap64 (x9 + 1))) else (none)))) else (none)) else (none)) else (some (x4, decide ((x0.length : Int) ≤ 100)))
def whirligiglaw04_vars.f (k : Nat) (l0 : List (S118)) : Option ((List (S151)) × Bool) := whirligiglaw04_vars.l0 k l0 ([] : List (S151)) l0 (l0.length : Int) 0
set_option maxHeartbeats 8000000 in
set_option maxRecDepth 100000 in
theorem whirligiglaw04_vars.calls (k : Nat) (A0 : Option Addr) (c0 : Nat) (l0 : List (S118)) (r1 : List (S151)) (r2 : Bool) (w : World) (hr0 : Kd.C k118 w A0 l0.length l0) (hc0 : l0.length ≤ c0) (h : whirligiglaw04_vars.f k l0 = some (r1, r2)) :
  Calls Tryd.prog 52 #[.slice A0 l0.length c0] w fun e w' => ∃ v0_ : Value, e = .returned (.tuple #[v0_, .bool r2]) ∧ Kd.R k151 151 w' w.heap.size (fun _ => True) v0_ r1 ∧ Below w.heap.size w w' := by
 have hu118 := Tryd.underlying118
 have HR0 := Aside0.mk hr0
 have HC0 := Aside0.mk hc0
 clear hr0 hc0
 have HB := Aside0.mk (Below.refl w.heap.size w)
 have H : (whirligiglaw04_vars.l0 k l0 ([] : List (S151)) l0 (l0.length : Int) 0) = some (r1, r2) := h
 clear h
 have H' := Aside0.mk H
 clear H
 go_enter Tryd.func52, Tryd.ntmps52
 go_wp2
 go_loopg [4, 9] k (fun kq v4 v9 w' => ∃ (x4_1 : List (S151)) (x9_1 : Int), v9 = .int .i64 x9_1 ∧ Aside0 (whirligiglaw04_vars.l0 kq l0 x4_1 l0 (l0.length : Int) x9_1 = some (r1, r2)) ∧ Aside0 (kq ≤ k) ∧ Aside0 (Kd.R k151 151 w' w.heap.size (fun _ => True) v4 x4_1) ∧ Aside0 (Below w.heap.size w w'))
 case atStart => exact ⟨(([] : List (S151))), (0), (by first | rfl | (simp; done) | (simp [*]; done)), H', ⟨Nat.le_refl _⟩, ⟨by first | exact Kd.R_nil _ _ _ _ _ | exact Kd.N_nil _ _ _ _ _ | exact Kd.V_nil _ _ _ _ _ | exact Kd.Q_nil _ _ _ _ _ | exact Kd.S_nil _ _ _ _ _⟩, ⟨qB⟩⟩
 case round =>
  clear H'
  obtain ⟨x4_1, x9_1, rfl, HA, HK1, HO_4, HB⟩ := hrel
  cases gk with
  | zero => exact absurd HA.out (by simp [whirligiglaw04_vars.l0])
  | succ k1 =>
   have H := HA.out
   clear HA
   simp only [whirligiglaw04_vars.l0] at H
   replace H := iD H
   rcases H with ⟨c2b0, H⟩ | ⟨c2b0, H⟩
   ·by_cases c3 : 0 ≤ x9_1
    ·rw [if_pos c3] at H
     have c3b0 := decide_eq_true c3
     clear c3
     replace H := iD H
     rcases H with ⟨c4b0, H⟩ | ⟨c4b0, H⟩
     ·by_cases c5 : ((rd_T118 l0 x9_1).f1) < 1
      ·rw [if_pos c5] at H
       have c5b0 := decide_eq_true c5
       clear c5
       simp only [Option.some.injEq, Prod.mk.injEq] at H
       obtain ⟨rfl, rfl⟩ := H
       have p828 : 0 ≤ (x9_1 : Int) := qD
       have q828 : x9_1 < (l0.length : Int) := qD
       obtain ⟨ad828, e828, hx828_0, hx828_1⟩ := at_T118 (Kd.C_below HR0.out HB.out) x9_1 p828 q828
       cases e828
       replace p828 := eq_true p828
       replace q828 := eq_true q828
       go_wp2_with (first | ((with_reducible refine gd 6 rfl ?_); refine bx 6 #[.string (⟨#[]⟩ : ByteArray), .int .i64 0] 118 ?_; intro gb829 hg w6 hbox hb; have BK829 := Aside0.mk (hbox); have GW829 := geS hg; have GE829 := geS hg; replace HO_4 := rb HO_4 hb; replace HB := bst hb; clear hb hbox hg; obtain ⟨hcz7_0, hcz7_1, hfz7_0, hfz7_1⟩ := cells2 BK829.out))
       go_ret2
       exact ⟨_, qR, by first | exact Kd.R_nil _ _ _ _ _ | exact Kd.N_nil _ _ _ _ _ | exact Kd.V_nil _ _ _ _ _ | exact Kd.Q_nil _ _ _ _ _ | exact Kd.S_nil _ _ _ _ _, qB⟩
      ·rw [if_neg c5] at H
       have c5b0 := decide_eq_false c5
       clear c5
       replace H := iD H
       rcases H with ⟨c8b0, H⟩ | ⟨c8b0, H⟩
       ·simp only [Option.some.injEq, Prod.mk.injEq] at H
        obtain ⟨rfl, rfl⟩ := H
        have p828 : 0 ≤ (x9_1 : Int) := qD
        have q828 : x9_1 < (l0.length : Int) := qD
        obtain ⟨ad828, e828, hx828_0, hx828_1⟩ := at_T118 (Kd.C_below HR0.out HB.out) x9_1 p828 q828
        cases e828
        replace p828 := eq_true p828
        replace q828 := eq_true q828
        go_wp2_with (first | ((with_reducible refine gd 6 rfl ?_); refine bx 6 #[.string (⟨#[]⟩ : ByteArray), .int .i64 0] 118 ?_; intro gb829 hg w9 hbox hb; have BK829 := Aside0.mk (hbox); have GW829 := geS hg; have GE829 := geS hg; replace HO_4 := rb HO_4 hb; replace HB := bst hb; clear hb hbox hg; obtain ⟨hcz10_0, hcz10_1, hfz10_0, hfz10_1⟩ := cells2 BK829.out))
        go_ret2
        exact ⟨_, qR, by first | exact Kd.R_nil _ _ _ _ _ | exact Kd.N_nil _ _ _ _ _ | exact Kd.V_nil _ _ _ _ _ | exact Kd.Q_nil _ _ _ _ _ | exact Kd.S_nil _ _ _ _ _, qB⟩
       ·by_cases c11 : x4_1.length < 5864062014805
        ·rw [if_pos c11] at H
         have LMc11 := Aside0.mk c11
         clear c11
         obtain ⟨y830, hy830⟩ : ∃ y_ : List (S151), y_ = (x4_1 ++ [(⟨(rd_T118 l0 x9_1).f0, (rd_T118 l0 x9_1).f1⟩ : S151)]) := ⟨_, rfl⟩
         replace H : (whirligiglaw04_vars.l0 k1 l0 y830 l0 (l0.length : Int) (wrap64 (x9_1 + 1))) = some (r1, r2) := by first | (rw [hy830]; with_reducible exact H) | (have H2_ := (Option.bind_some _ _).symm.trans H; rw [hy830]; with_reducible exact H2_) | (have H2_ := (Option.bind_some _ _).symm.trans H; with_reducible exact H2_) | with_reducible exact H | (rw [hy830]; exact H) | exact H
         have Ny830 := Aside0.mk hy830
         clear hy830
         have H' := Aside0.mk H
         clear H
         have p828 : 0 ≤ (x9_1 : Int) := qD
         have q828 : x9_1 < (l0.length : Int) := qD
         obtain ⟨ad828, e828, hx828_0, hx828_1⟩ := at_T118 (Kd.C_below HR0.out HB.out) x9_1 p828 q828
         cases e828
         replace p828 := eq_true p828
         replace q828 := eq_true q828
         go_wp2_with (first | ((with_reducible refine gd 6 rfl ?_); refine bx 6 #[.string (⟨#[]⟩ : ByteArray), .int .i64 0] 118 ?_; intro gb829 hg w12 hbox hb; have BK829 := Aside0.mk (hbox); have GW829 := geS hg; have GE829 := geS hg; replace HO_4 := rb HO_4 hb; replace HB := bst hb; clear hb hbox hg; obtain ⟨hcz13_0, hcz13_1, hfz13_0, hfz13_1⟩ := cells2 BK829.out) | ((with_reducible refine gate_builtin (b := .append) (xs := #[.tmp 21, .tmp 23]) rfl ?_); at_builtin; refine Kd.R_append k151 (w0 := w) w.heap.size rfl (.tmp 21) (.tmp 23) 79 151 (.agg #[(.string ⟨#[]⟩), (.int .i64 0)]) 24 rfl Tryd.underlying79 info151 rfl (by decide) (by omega) u4 x4_1 (⟨(rd_T118 l0 x9_1).f0, (rd_T118 l0 x9_1).f1⟩ : S151) [.string ((rd_T118 l0 x9_1).f0), .int .i64 ((rd_T118 l0 x9_1).f1)] (fun _ => True) (fun _ => False) rfl (by first | (go_simp; done) | (go_simp; rfl)) ?aP (fun _ hk => hk.elim) ?aF ?aO ?aB ?aS ?aL ?_; (case aP => exact k151_mkM _ _ _ (⟨(rd_T118 l0 x9_1).f0, (rd_T118 l0 x9_1).f1⟩ : S151)); (case aB => exact qB); (case aF => exact (fun _ _ => trivial)); (case aO => exact (by (with_reducible repeat (first | apply Kd.R_alloc | apply Kd.R_drewN | apply Kd.R_drew)); exact Kd.R_mono (Kd.R_far (p := ⟨gb829, 1, none⟩) (Kd.R_far (p := ⟨gb829, 0, none⟩) (Kd.R_types HO_4.out BK829.out (by decide)) (fun _ hk => hk.2) (.string ((rd_T118 l0 x9_1).f0))) (fun _ hk => hk.2) (.int .i64 ((rd_T118 l0 x9_1).f1))) (fun _ hk => trivial))); (case aS => exact (below_size qB)); (case aL => have := LMc11.out; omega); intro v831 w14 ho hb hg hat; rw [← Ny830.out] at ho; have n0_ := Aside0.mk (blk_grown (g := gb829) (o := .cells #[.string ((rd_T118 l0 x9_1).f0), .int .i64 ((rd_T118 l0 x9_1).f1)] 118 (0, 0)) qP hg (Kd.R_ne HO_4.out BK829.out (by decide))); have n1_ := Aside0.mk (hb); have n2_ := Aside0.mk (ho); clear BK829; clear HB; clear HO_4; have BK829 := n0_; have HB := n1_; have HO832 := n2_; clear n0_ n1_ n2_; clear ho hb hg hat))
         go_roundg k1
         case measure => have := HK1.out; omega
         case rel => exact ⟨(y830), (wrap64 (x9_1 + 1)), (by first | rfl | (simp; done) | (simp [*]; done)), H', ⟨by have := HK1.out; omega⟩, ⟨by (with_reducible repeat (first | apply Kd.R_alloc | apply Kd.R_drewN | apply Kd.R_drew)); exact HO832.out⟩, ⟨qB⟩⟩
        ·rw [if_neg c11] at H
         exact absurd H (by simp)
     ·exact absurd H (by simp)
    ·rw [if_neg c3] at H
     exact absurd H (by simp)
   ·simp only [Option.some.injEq, Prod.mk.injEq] at H
    obtain ⟨rfl, rfl⟩ := H
    go_wp2
    go_ret2
    exact ⟨_, qR, by (with_reducible repeat (first | apply Kd.R_alloc | apply Kd.R_drewN | apply Kd.R_drew)); exact HO_4.out, qB⟩
end Go.Proofs.YtbngfhlciebeeaaDoor.L
end
section
namespace Go.Proofs.YtbngfhlciebeeaaDoor.L
open Go.RowKit Go.Proofs.YtbngfhlciebeeaaDoorW.PrintWords Go.Proofs.YtbngfhlciebeeaaDoorW.PrintLast Go.Proofs.YtbngfhlciebeeaaDoorW.PrintMore
attribute [local go_sem] max2_int min2_int max_two min_two max_three min_three max_four min_four   -- for this text's walks alone
set_option linter.unusedVariables false
set_option linter.unusedSimpArgs false
def kind_Is.f (k : Nat) (l0 : List (S156)) (l1_0 : List (S118)) (l1_1 : List ByteArray) (a2 : Int) : Option (Int) := (kind_Of.f k l0 l1_0 l1_1).bind fun bt889 => (if bt889.2 = 0 then (if bt889.1 = a2 then (some 0) else (some 20)) else (some bt889.2))
set_option maxHeartbeats 8000000 in
set_option maxRecDepth 100000 in
theorem kind_Is.calls (k : Nat) (A0 : Option Addr) (c0 : Nat) (l0 : List (S156)) (A1_0 : Option Addr) (c1_0 : Nat) (l1_0 : List (S118)) (A1_1 : Option Addr) (c1_1 : Nat) (l1_1 : List ByteArray) (a2 : Int) (r : Int) (w : World) (hr0 : Kd.C k156 w A0 l0.length l0) (hc0 : l0.length ≤ c0) (hr1_0 : Kd.C k118 w A1_0 l1_0.length l1_0) (hc1_0 : l1_0.length ≤ c1_0) (hr1_1 : Kd.C Kd.string w A1_1 l1_1.length l1_1) (hc1_1 : l1_1.length ≤ c1_1) (hL : Laid w) (h : kind_Is.f k l0 l1_0 l1_1 a2 = some r) :
  Calls Tryd.prog 57 #[.slice A0 l0.length c0, .agg #[.slice A1_0 l1_0.length c1_0, .slice A1_1 l1_1.length c1_1], .int .i64 a2] w fun e w' => e = .returned (.int .i64 r) ∧ Below w.heap.size w w' := by
 have hu78 := Tryd.underlying78
 have HR0 := Aside0.mk hr0
 have HC0 := Aside0.mk hc0
 clear hr0 hc0
 have HR1_0 := Aside0.mk hr1_0
 have HC1_0 := Aside0.mk hc1_0
 clear hr1_0 hc1_0
 have HR1_1 := Aside0.mk hr1_1
 have HC1_1 := Aside0.mk hc1_1
 clear hr1_1 hc1_1
 have HB := Aside0.mk (Below.refl w.heap.size w)
 have HLD := Aside0.mk hL
 clear hL
 have H : ((kind_Of.f k l0 l1_0 l1_1).bind fun bt889 => (if bt889.2 = 0 then (if bt889.1 = a2 then (some 0) else (some 20)) else (some bt889.2))) = some r := h
 clear h
 replace H := Option.bind_eq_some_iff.mp H
 obtain ⟨⟨t889, t890⟩, A40, H⟩ := H
 (try dsimp -simprocs only at H)
 have A4 := Aside0.mk A40
 clear A40
 by_cases c5 : t890 = 0
 ·rw [if_pos c5] at H
  have c5b0 := beq_iff_eq.mpr c5
  have c5b1 := bne_eq_false_iff_eq.mpr c5
  clear c5
  by_cases c6 : t889 = a2
  ·rw [if_pos c6] at H
   have c6b0 := beq_iff_eq.mpr c6
   have c6b1 := bne_eq_false_iff_eq.mpr c6
   clear c6
   obtain rfl := Option.some.inj H
   go_enter Tryd.func57, Tryd.ntmps57
   go_wp2_with (first | ((with_reducible refine gd 4 rfl ?_); refine bx 4 #[.slice A1_0 l1_0.length c1_0, .slice A1_1 l1_1.length c1_1] 78 ?_; intro gb888 hg w7 hbox hb; have BK888 := Aside0.mk (hbox); have GW888 := geS hg; have GE888 := geS hg; replace HB := bst hb; clear hb hbox hg; obtain ⟨hcz8_0, hcz8_1, hfz8_0, hfz8_1⟩ := cells2 BK888.out) | ((with_reducible refine gc 54 rfl ?_); refine gl (some 12) #[.slice A0 l0.length c0, .agg #[.slice A1_0 l1_0.length c1_0, .slice A1_1 l1_1.length c1_1]] Tryd.func54 ?_; (with_reducible refine (kind_Of.calls k _ _ l0 _ _ l1_0 _ _ l1_1 t889 t890 _ ?side1 ?side2 ?side3 ?side4 ?side5 ?side6 ?side7 A4.out).mono ?_); (case side1 => exact qC); (case side2 => exact HC0.out); (case side3 => exact qC); (case side4 => exact HC1_0.out); (case side5 => exact qC); (case side6 => exact HC1_1.out); (case side7 => exact Laid.below HLD.out qB); rintro e w9 ⟨rfl, hb⟩; refine ⟨_, rfl, ?_⟩; replace BK888 := kb gb888 hb; replace HB := bst hb; (try clear hb)))
   go_ret
   exact ⟨qR, qB⟩
  ·rw [if_neg c6] at H
   have c6b0 := beq_eq_false_iff_ne.mpr c6
   have c6b1 := bne_iff_ne.mpr c6
   obtain rfl := Option.some.inj H
   go_enter Tryd.func57, Tryd.ntmps57
   go_wp2_with (first | ((with_reducible refine gd 4 rfl ?_); refine bx 4 #[.slice A1_0 l1_0.length c1_0, .slice A1_1 l1_1.length c1_1] 78 ?_; intro gb888 hg w10 hbox hb; have BK888 := Aside0.mk (hbox); have GW888 := geS hg; have GE888 := geS hg; replace HB := bst hb; clear hb hbox hg; obtain ⟨hcz11_0, hcz11_1, hfz11_0, hfz11_1⟩ := cells2 BK888.out) | ((with_reducible refine gc 54 rfl ?_); refine gl (some 12) #[.slice A0 l0.length c0, .agg #[.slice A1_0 l1_0.length c1_0, .slice A1_1 l1_1.length c1_1]] Tryd.func54 ?_; (with_reducible refine (kind_Of.calls k _ _ l0 _ _ l1_0 _ _ l1_1 t889 t890 _ ?side1 ?side2 ?side3 ?side4 ?side5 ?side6 ?side7 A4.out).mono ?_); (case side1 => exact qC); (case side2 => exact HC0.out); (case side3 => exact qC); (case side4 => exact HC1_0.out); (case side5 => exact qC); (case side6 => exact HC1_1.out); (case side7 => exact Laid.below HLD.out qB); rintro e w12 ⟨rfl, hb⟩; refine ⟨_, rfl, ?_⟩; replace BK888 := kb gb888 hb; replace HB := bst hb; (try clear hb)))
   go_ret
   exact ⟨qR, qB⟩
 ·rw [if_neg c5] at H
  have c5b0 := beq_eq_false_iff_ne.mpr c5
  have c5b1 := bne_iff_ne.mpr c5
  obtain rfl := Option.some.inj H
  go_enter Tryd.func57, Tryd.ntmps57
  go_wp2_with (first | ((with_reducible refine gd 4 rfl ?_); refine bx 4 #[.slice A1_0 l1_0.length c1_0, .slice A1_1 l1_1.length c1_1] 78 ?_; intro gb888 hg w13 hbox hb; have BK888 := Aside0.mk (hbox); have GW888 := geS hg; have GE888 := geS hg; replace HB := bst hb; clear hb hbox hg; obtain ⟨hcz14_0, hcz14_1, hfz14_0, hfz14_1⟩ := cells2 BK888.out) | ((with_reducible refine gc 54 rfl ?_); refine gl (some 12) #[.slice A0 l0.length c0, .agg #[.slice A1_0 l1_0.length c1_0, .slice A1_1 l1_1.length c1_1]] Tryd.func54 ?_; (with_reducible refine (kind_Of.calls k _ _ l0 _ _ l1_0 _ _ l1_1 t889 t890 _ ?side1 ?side2 ?side3 ?side4 ?side5 ?side6 ?side7 A4.out).mono ?_); (case side1 => exact qC); (case side2 => exact HC0.out); (case side3 => exact qC); (case side4 => exact HC1_0.out); (case side5 => exact qC); (case side6 => exact HC1_1.out); (case side7 => exact Laid.below HLD.out qB); rintro e w15 ⟨rfl, hb⟩; refine ⟨_, rfl, ?_⟩; replace BK888 := kb gb888 hb; replace HB := bst hb; (try clear hb)))
  go_ret
  exact ⟨qR, qB⟩
end Go.Proofs.YtbngfhlciebeeaaDoor.L
end
section
namespace Go.Proofs.YtbngfhlciebeeaaDoor.L
open Go.RowKit Go.Proofs.YtbngfhlciebeeaaDoorW.PrintWords Go.Proofs.YtbngfhlciebeeaaDoorW.PrintLast Go.Proofs.YtbngfhlciebeeaaDoorW.PrintMore
attribute [local go_sem] max2_int min2_int max_two min_two max_three min_three max_four min_four   -- for this text's walks alone
set_option linter.unusedVariables false
set_option linter.unusedSimpArgs false
def whirligiglaw04_KindForms.j0 : Nat → List (S156) → Bool → List (S118) → List ByteArray → Option (Bool)
 | 0, _, _, _, _ => none
 | k + 1, x0, x27, x911000, x911001 => if x27 = true then (some true) else ((kind_Of.f k x0 x911000 x911001).bind fun bt917 => (if bt917.1 = 0 then (if bt917.2 = 11 then ((kind_Is.f k x0 x911000 x911001 1).bind fun t919 => (some (t919 == 11))) else (some false)) else (some false)))
def whirligiglaw04_KindForms.f (k : Nat) (l0 : List (S156)) (l1_0 : List (S118)) (l1_1 : List ByteArray) : Option (Bool) := (whirligiglaw04_anchor.f k).bind fun t911 => (if t911 = true then ((whirligiglaw04_vars.f k l1_0).bind fun bt912 => (if bt912.2 = true then (if (l0.length : Int) > 100 then (whirligiglaw04_KindForms.j0 k l0 true l1_0 l1_1) else ((expr_Expr_Right.f k l0).bind fun t916 => (whirligiglaw04_KindForms.j0 k l0 t916 l1_0 l1_1))) else (whirligiglaw04_KindForms.j0 k l0 true l1_0 l1_1))) else (some false))
set_option maxHeartbeats 8000000 in
set_option maxRecDepth 100000 in
theorem whirligiglaw04_KindForms.calls (k : Nat) (A0 : Option Addr) (c0 : Nat) (l0 : List (S156)) (A1_0 : Option Addr) (c1_0 : Nat) (l1_0 : List (S118)) (A1_1 : Option Addr) (c1_1 : Nat) (l1_1 : List ByteArray) (r : Bool) (w : World) (hr0 : Kd.C k156 w A0 l0.length l0) (hc0 : l0.length ≤ c0) (hr1_0 : Kd.C k118 w A1_0 l1_0.length l1_0) (hc1_0 : l1_0.length ≤ c1_0) (hr1_1 : Kd.C Kd.string w A1_1 l1_1.length l1_1) (hc1_1 : l1_1.length ≤ c1_1) (hL : Laid w) (h : whirligiglaw04_KindForms.f k l0 l1_0 l1_1 = some r) :
  Calls Tryd.prog 14 #[.slice A0 l0.length c0, .agg #[.slice A1_0 l1_0.length c1_0, .slice A1_1 l1_1.length c1_1]] w fun e w' => e = .returned (.bool r) ∧ Below w.heap.size w w' := by
 have hu78 := Tryd.underlying78
 have HR0 := Aside0.mk hr0
 have HC0 := Aside0.mk hc0
 clear hr0 hc0
 have HR1_0 := Aside0.mk hr1_0
 have HC1_0 := Aside0.mk hc1_0
 clear hr1_0 hc1_0
 have HR1_1 := Aside0.mk hr1_1
 have HC1_1 := Aside0.mk hc1_1
 clear hr1_1 hc1_1
 have HB := Aside0.mk (Below.refl w.heap.size w)
 have HLD := Aside0.mk hL
 clear hL
 have H : ((whirligiglaw04_anchor.f k).bind fun t911 => (if t911 = true then ((whirligiglaw04_vars.f k l1_0).bind fun bt912 => (if bt912.2 = true then (if (l0.length : Int) > 100 then (whirligiglaw04_KindForms.j0 k l0 true l1_0 l1_1) else ((expr_Expr_Right.f k l0).bind fun t916 => (whirligiglaw04_KindForms.j0 k l0 t916 l1_0 l1_1))) else (whirligiglaw04_KindForms.j0 k l0 true l1_0 l1_1))) else (some false))) = some r := h
 clear h
 replace H := Option.bind_eq_some_iff.mp H
 obtain ⟨t911, A30, H⟩ := H
 (try dsimp -simprocs only at H)
 have A3 := Aside0.mk A30
 clear A30
 by_cases c4 : t911 = true
 ·subst c4
  rw [if_pos rfl] at H
  replace H := Option.bind_eq_some_iff.mp H
  obtain ⟨⟨t912, t913⟩, A50, H⟩ := H
  (try dsimp -simprocs only at H)
  have A5 := Aside0.mk A50
  clear A50
  have HC6 := Aside0.mk H
  clear H
  go_enter Tryd.func14, Tryd.ntmps14
  go_upto_region 4 with (first | ((with_reducible refine gate_dst (N := 3) rfl ?_); (try (refine gate_guard (by rfl) ?_; dsimp only)); refine box_event ?hg (N := 3) ?hd (cs := #[.slice A1_0 l1_0.length c1_0, .slice A1_1 l1_1.length c1_1]) (t := 78) ?hr ?_; (case hd => rfl); (case hg => rfl); (case hr => first | (go_simp; done) | (go_simp; rfl)); intro gb910 hg w7 hbox hb; have BK910 := Aside0.mk (hbox); have GW910 := geS hg; have GE910 := geS hg; replace HB := bst hb; clear hb hbox hg) | ((with_reducible refine gc 51 rfl ?_); refine gl (some 9) #[] Tryd.func51 ?_; (with_reducible refine (whirligiglaw04_anchor.calls k  true _ ?side1 A3.out).mono ?_); (case side1 => exact Laid.below HLD.out qB); rintro e w8 ⟨rfl, hb⟩; refine ⟨_, rfl, ?_⟩; replace BK910 := kb gb910 hb; replace HB := bst hb; (try clear hb); obtain ⟨hcz9_0, hcz9_1, hfz9_0, hfz9_1⟩ := cells2 BK910.out) | ((with_reducible refine gc 52 rfl ?_); refine gl (some 14) #[.slice A1_0 l1_0.length c1_0] Tryd.func52 ?_; (with_reducible refine (whirligiglaw04_vars.calls k _ _ l1_0 t912 t913 _ ?side1 ?side2 A5.out).mono ?_); (case side1 => exact qC); (case side2 => exact HC1_0.out); rintro e w10 ⟨v914, rfl, ho0, hb⟩; refine ⟨_, rfl, ?_⟩; have HO915 := Aside0.mk (Kd.R_lower ho0 (below_size qB)); replace BK910 := kb gb910 hb; replace HB := bst hb; (try clear hb); (try clear ho0)))
  (try simp only [Act.put, List.setIfInBounds_toArray, List.set_cons_zero, List.set_cons_succ])
  go_cut [27] (fun v27 wc => ∃ (kq : Nat) (x27_5 : Bool), v27 = .bool x27_5 ∧ Aside0 (whirligiglaw04_KindForms.j0 kq l0 x27_5 l1_0 l1_1 = some r) ∧ Aside0 (kq ≤ k) ∧ Aside0 (wc.heap[gb910]? = some (.cells #[(.slice A1_0 l1_0.length c1_0), (.slice A1_1 l1_1.length c1_1)] 78 (0, 0))) ∧ Aside0 (Below w.heap.size w wc))
  case first =>
   have H := HC6.out
   clear HC6
   by_cases c11 : t913 = true
   ·subst c11
    rw [if_pos rfl] at H
    by_cases c12 : (l0.length : Int) > 100
    ·rw [if_pos c12] at H
     have c12b0 := decide_eq_true c12
     have c12b1 : decide (100 < l0.length) = true := decide_eq_true (by omega)
     clear c12
     (first | rw [c12b0] | (simp only [i64_w, i32_w]; rw [c12b0]) | skip)
     have H' := Aside0.mk H
     clear H
     go_wp2
     go_meet
     case rel => exact ⟨_, (true), (by first | rfl | (simp; done) | (simp [*]; done)), H', ⟨by first | omega | exact Nat.le_refl _⟩, ⟨qK⟩, ⟨qB⟩⟩
    ·rw [if_neg c12] at H
     have c12b0 := decide_eq_false c12
     have c12b1 : decide (100 < l0.length) = false := decide_eq_false (by omega)
     clear c12
     (first | rw [c12b0] | (simp only [i64_w, i32_w]; rw [c12b0]) | skip)
     replace H := Option.bind_eq_some_iff.mp H
     obtain ⟨t916, A130, H⟩ := H
     (try dsimp -simprocs only at H)
     have A13 := Aside0.mk A130
     clear A130
     have H' := Aside0.mk H
     clear H
     go_wp2_with (first | (go_at_call 58; (with_reducible refine (expr_Expr_Right.calls k _ _ l0 t916 _ ?side1 ?side2 ?side3 A13.out).mono ?_); (case side1 => exact qC); (case side2 => exact HC0.out); (case side3 => exact Laid.below HLD.out qB); rintro e w14 ⟨rfl, hb⟩; replace BK910 := kb gb910 hb; replace HO915 := rb HO915 hb; replace HB := bst hb; (try clear hb)))
     go_meet
     case rel => exact ⟨_, (t916), (by first | rfl | (simp; done) | (simp [*]; done)), H', ⟨by first | omega | exact Nat.le_refl _⟩, ⟨qK⟩, ⟨qB⟩⟩
   ·replace c11 := Bool.eq_false_iff.mpr c11
    subst c11
    rw [if_neg (show ¬ (false = true) by decide)] at H
    have H' := Aside0.mk H
    clear H
    go_wp2
    go_meet
    case rel => exact ⟨_, (true), (by first | rfl | (simp; done) | (simp [*]; done)), H', ⟨by first | omega | exact Nat.le_refl _⟩, ⟨qK⟩, ⟨qB⟩⟩
  case rest =>
   clear HC6
   try clear c1
   try clear p2
   try clear c4
   try clear c5
   try clear c11
   try clear c12
   try clear c12b0
   try clear c12b1
   try clear c14
   try clear hcz9_0 hcz9_1 hfz9_0 hfz9_1
   obtain ⟨kq, x27_5, rfl, HA, HJ5, BK910, HB⟩ := hcut
   cases kq with
   | zero => exact absurd HA.out (by simp [whirligiglaw04_KindForms.j0])
   | succ kj5 =>
    have H := HA.out
    clear HA
    simp only [whirligiglaw04_KindForms.j0] at H
    by_cases c15 : x27_5 = true
    ·subst c15
     rw [if_pos rfl] at H
     obtain rfl := Option.some.inj H
     go_wp2
     go_ret
     exact ⟨qR, qB⟩
    ·replace c15 := Bool.eq_false_iff.mpr c15
     subst c15
     rw [if_neg (show ¬ (false = true) by decide)] at H
     replace H := Option.bind_eq_some_iff.mp H
     obtain ⟨⟨t917, t918⟩, A160, H⟩ := H
     (try dsimp -simprocs only at H)
     have A16 := Aside0.mk A160
     clear A160
     by_cases c17 : t917 = 0
     ·rw [if_pos c17] at H
      have c17b0 := beq_iff_eq.mpr c17
      have c17b1 := bne_eq_false_iff_eq.mpr c17
      clear c17
      by_cases c18 : t918 = 11
      ·rw [if_pos c18] at H
       have c18b0 := beq_iff_eq.mpr c18
       have c18b1 := bne_eq_false_iff_eq.mpr c18
       clear c18
       replace H := Option.bind_eq_some_iff.mp H
       obtain ⟨t919, A190, H⟩ := H
       (try dsimp -simprocs only at H)
       have A19 := Aside0.mk A190
       clear A190
       obtain rfl := Option.some.inj H
       obtain ⟨hcz20_0, hcz20_1, hfz20_0, hfz20_1⟩ := cells2 BK910.out
       go_wp2_with (first | ((with_reducible refine gc 54 rfl ?_); refine gl (some 31) #[.slice A0 l0.length c0, .agg #[.slice A1_0 l1_0.length c1_0, .slice A1_1 l1_1.length c1_1]] Tryd.func54 ?_; (with_reducible refine (kind_Of.calls kj5 _ _ l0 _ _ l1_0 _ _ l1_1 t917 t918 _ ?side1 ?side2 ?side3 ?side4 ?side5 ?side6 ?side7 A16.out).mono ?_); (case side1 => exact qC); (case side2 => exact HC0.out); (case side3 => exact qC); (case side4 => exact HC1_0.out); (case side5 => exact qC); (case side6 => exact HC1_1.out); (case side7 => exact Laid.below HLD.out qB); rintro e w21 ⟨rfl, hb⟩; refine ⟨_, rfl, ?_⟩; replace BK910 := kb gb910 hb; replace HB := bst hb; (try clear hb); obtain ⟨hcz22_0, hcz22_1, hfz22_0, hfz22_1⟩ := cells2 BK910.out) | (go_at_call 57; (with_reducible refine (kind_Is.calls kj5 _ _ l0 _ _ l1_0 _ _ l1_1 1 t919 _ ?side1 ?side2 ?side3 ?side4 ?side5 ?side6 ?side7 A19.out).mono ?_); (case side1 => exact qC); (case side2 => exact HC0.out); (case side3 => exact qC); (case side4 => exact HC1_0.out); (case side5 => exact qC); (case side6 => exact HC1_1.out); (case side7 => exact Laid.below HLD.out qB); rintro e w23 ⟨rfl, hb⟩; replace BK910 := kb gb910 hb; replace HB := bst hb; (try clear hb)))
       go_ret
       exact ⟨qR, qB⟩
      ·rw [if_neg c18] at H
       have c18b0 := beq_eq_false_iff_ne.mpr c18
       have c18b1 := bne_iff_ne.mpr c18
       obtain rfl := Option.some.inj H
       obtain ⟨hcz24_0, hcz24_1, hfz24_0, hfz24_1⟩ := cells2 BK910.out
       go_wp2_with (first | ((with_reducible refine gc 54 rfl ?_); refine gl (some 31) #[.slice A0 l0.length c0, .agg #[.slice A1_0 l1_0.length c1_0, .slice A1_1 l1_1.length c1_1]] Tryd.func54 ?_; (with_reducible refine (kind_Of.calls kj5 _ _ l0 _ _ l1_0 _ _ l1_1 t917 t918 _ ?side1 ?side2 ?side3 ?side4 ?side5 ?side6 ?side7 A16.out).mono ?_); (case side1 => exact qC); (case side2 => exact HC0.out); (case side3 => exact qC); (case side4 => exact HC1_0.out); (case side5 => exact qC); (case side6 => exact HC1_1.out); (case side7 => exact Laid.below HLD.out qB); rintro e w25 ⟨rfl, hb⟩; refine ⟨_, rfl, ?_⟩; replace BK910 := kb gb910 hb; replace HB := bst hb; (try clear hb)))
       go_ret
       exact ⟨qR, qB⟩
     ·rw [if_neg c17] at H
      have c17b0 := beq_eq_false_iff_ne.mpr c17
      have c17b1 := bne_iff_ne.mpr c17
      obtain rfl := Option.some.inj H
      obtain ⟨hcz26_0, hcz26_1, hfz26_0, hfz26_1⟩ := cells2 BK910.out
      go_wp2_with (first | ((with_reducible refine gc 54 rfl ?_); refine gl (some 31) #[.slice A0 l0.length c0, .agg #[.slice A1_0 l1_0.length c1_0, .slice A1_1 l1_1.length c1_1]] Tryd.func54 ?_; (with_reducible refine (kind_Of.calls kj5 _ _ l0 _ _ l1_0 _ _ l1_1 t917 t918 _ ?side1 ?side2 ?side3 ?side4 ?side5 ?side6 ?side7 A16.out).mono ?_); (case side1 => exact qC); (case side2 => exact HC0.out); (case side3 => exact qC); (case side4 => exact HC1_0.out); (case side5 => exact qC); (case side6 => exact HC1_1.out); (case side7 => exact Laid.below HLD.out qB); rintro e w27 ⟨rfl, hb⟩; refine ⟨_, rfl, ?_⟩; replace BK910 := kb gb910 hb; replace HB := bst hb; (try clear hb)))
      go_ret
      exact ⟨qR, qB⟩
 ·replace c4 := Bool.eq_false_iff.mpr c4
  subst c4
  rw [if_neg (show ¬ (false = true) by decide)] at H
  obtain rfl := Option.some.inj H
  go_enter Tryd.func14, Tryd.ntmps14
  go_wp2_with (first | ((with_reducible refine gate_dst (N := 3) rfl ?_); (try (refine gate_guard (by rfl) ?_; dsimp only)); refine box_event ?hg (N := 3) ?hd (cs := #[.slice A1_0 l1_0.length c1_0, .slice A1_1 l1_1.length c1_1]) (t := 78) ?hr ?_; (case hd => rfl); (case hg => rfl); (case hr => first | (go_simp; done) | (go_simp; rfl)); intro gb910 hg w28 hbox hb; have BK910 := Aside0.mk (hbox); have GW910 := geS hg; have GE910 := geS hg; replace HB := bst hb; clear hb hbox hg) | ((with_reducible refine gc 51 rfl ?_); refine gl (some 9) #[] Tryd.func51 ?_; (with_reducible refine (whirligiglaw04_anchor.calls k  false _ ?side1 A3.out).mono ?_); (case side1 => exact Laid.below HLD.out qB); rintro e w29 ⟨rfl, hb⟩; refine ⟨_, rfl, ?_⟩; replace BK910 := kb gb910 hb; replace HB := bst hb; (try clear hb)))
  go_ret
  exact ⟨qR, qB⟩
end Go.Proofs.YtbngfhlciebeeaaDoor.L
end
