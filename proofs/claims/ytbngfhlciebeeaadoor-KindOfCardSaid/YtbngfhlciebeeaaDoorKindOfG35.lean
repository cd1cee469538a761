/- Printed and hand-written steps towards the row (KindOf), those that it reaches. -/
import Derived.Test.YtbngfhlciebeeaaDoorKindOfG4
import Derived.Test.YtbngfhlciebeeaaDoorKindOfG5
import Derived.Test.YtbngfhlciebeeaaDoorKindOfLxf54
import Derived.Test.YtbngfhlciebeeaaDoorKindOfG28
import Derived.Test.YtbngfhlciebeeaaDoorKindOfLxf55
section
namespace Go.Proofs.YtbngfhlciebeeaaDoor.L
open Go.RowKit Go.Proofs.YtbngfhlciebeeaaDoorW.PrintWords Go.Proofs.YtbngfhlciebeeaaDoorW.PrintLast Go.Proofs.YtbngfhlciebeeaaDoorW.PrintMore
attribute [local go_sem] max2_int min2_int max_two min_two max_three min_three max_four min_four   -- for this text's walks alone
set_option linter.unusedVariables false
set_option linter.unusedSimpArgs false
def whirligiglaw04_refs.l0 : Nat → List (S159) → List (S156) → Int → Int → Option ((List (S159)))
 | 0, _, _, _, _ => none
 | k + 1, x3, x6, x7, x8 => if x8 < x7 then (if 0 ≤ x8 then (if x8 < (x6.length : Int) then (if x3.length < 1954687338268 then (whirligiglaw04_refs.l0 k (x3 ++ [(⟨(rd_T156 x6 x8).f0, (⟨(rd_T156 x6 x8).f1.f0, (rd_T156 x6 x8).f1.f1, (rd_T156 x6 x8).f1.f2⟩ : S106), (rd_T156 x6 x8).f2, (rd_T156 x6 x8).f3, (rd_T156 x6 x8).f4⟩ : S159)]) x6 x7 (wrap64 (x8 + 1))) else (none)) else (none)) else (none)) else (some x3)
def whirligiglaw04_refs.f (k : Nat) (l0 : List (S156)) : Option ((List (S159))) := whirligiglaw04_refs.l0 k ([] : List (S159)) l0 (l0.length : Int) 0
set_option maxHeartbeats 8000000 in
set_option maxRecDepth 100000 in
theorem whirligiglaw04_refs.calls (k : Nat) (A0 : Option Addr) (c0 : Nat) (l0 : List (S156)) (r : List (S159)) (w : World) (hr0 : Kd.C k156 w A0 l0.length l0) (hc0 : l0.length ≤ c0) (h : whirligiglaw04_refs.f k l0 = some r) :
  Calls Tryd.prog 56 #[.slice A0 l0.length c0] w fun e w' => ∃ v0_ : Value, e = .returned (v0_) ∧ Kd.R k159 159 w' w.heap.size (fun _ => True) v0_ r ∧ Below w.heap.size w w' := by
 have hu156 := Tryd.underlying156
 have hu103 := Tryd.underlying103
 have hu159 := Tryd.underlying159
 have HR0 := Aside0.mk hr0
 have HC0 := Aside0.mk hc0
 clear hr0 hc0
 have HB := Aside0.mk (Below.refl w.heap.size w)
 have H : (whirligiglaw04_refs.l0 k ([] : List (S159)) l0 (l0.length : Int) 0) = some r := h
 clear h
 have H' := Aside0.mk H
 clear H
 go_enter Tryd.func56, Tryd.ntmps56
 go_wp2
 go_loopg [3, 8] k (fun kq v3 v8 w' => ∃ (x3_1 : List (S159)) (x8_1 : Int), v8 = .int .i64 x8_1 ∧ Aside0 (whirligiglaw04_refs.l0 kq x3_1 l0 (l0.length : Int) x8_1 = some r) ∧ Aside0 (kq ≤ k) ∧ Aside0 (Kd.R k159 159 w' w.heap.size (fun _ => True) v3 x3_1) ∧ Aside0 (Below w.heap.size w w'))
 case atStart => exact ⟨(([] : List (S159))), (0), (by first | rfl | (simp; done) | (simp [*]; done)), H', ⟨Nat.le_refl _⟩, ⟨by first | exact Kd.R_nil _ _ _ _ _ | exact Kd.N_nil _ _ _ _ _ | exact Kd.V_nil _ _ _ _ _ | exact Kd.Q_nil _ _ _ _ _ | exact Kd.S_nil _ _ _ _ _⟩, ⟨qB⟩⟩
 case round =>
  clear H'
  obtain ⟨x3_1, x8_1, rfl, HA, HK1, HO_3, HB⟩ := hrel
  cases gk with
  | zero => exact absurd HA.out (by simp [whirligiglaw04_refs.l0])
  | succ k1 =>
   have H := HA.out
   clear HA
   simp only [whirligiglaw04_refs.l0] at H
   replace H := iD H
   rcases H with ⟨c2b0, H⟩ | ⟨c2b0, H⟩
   ·by_cases c3 : 0 ≤ x8_1
    ·rw [if_pos c3] at H
     have c3b0 := decide_eq_true c3
     clear c3
     replace H := iD H
     rcases H with ⟨c4b0, H⟩ | ⟨c4b0, H⟩
     ·by_cases c5 : x3_1.length < 1954687338268
      ·rw [if_pos c5] at H
       have LMc5 := Aside0.mk c5
       clear c5
       obtain ⟨y885, hy885⟩ : ∃ y_ : List (S159), y_ = (x3_1 ++ [(⟨(rd_T156 l0 x8_1).f0, (⟨(rd_T156 l0 x8_1).f1.f0, (rd_T156 l0 x8_1).f1.f1, (rd_T156 l0 x8_1).f1.f2⟩ : S106), (rd_T156 l0 x8_1).f2, (rd_T156 l0 x8_1).f3, (rd_T156 l0 x8_1).f4⟩ : S159)]) := ⟨_, rfl⟩
       replace H : (whirligiglaw04_refs.l0 k1 y885 l0 (l0.length : Int) (wrap64 (x8_1 + 1))) = some r := by first | (rw [hy885]; with_reducible exact H) | (have H2_ := (Option.bind_some _ _).symm.trans H; rw [hy885]; with_reducible exact H2_) | (have H2_ := (Option.bind_some _ _).symm.trans H; with_reducible exact H2_) | with_reducible exact H | (rw [hy885]; exact H) | exact H
       have Ny885 := Aside0.mk hy885
       clear hy885
       have H' := Aside0.mk H
       clear H
       have p883 : 0 ≤ (x8_1 : Int) := qD
       have q883 : x8_1 < (l0.length : Int) := qD
       obtain ⟨ad883, e883, hx883_0, hx883_1, hx883_2, hx883_3, hx883_4, hx883_5, hx883_6⟩ := at_T156 (Kd.C_below HR0.out HB.out) x8_1 p883 q883
       cases e883
       replace p883 := eq_true p883
       replace q883 := eq_true q883
       go_wp2_with (first | ((with_reducible refine gd 5 rfl ?_); refine bx 5 #[.int .i64 0, .int .i64 0, .int .i64 0, .string (⟨#[]⟩ : ByteArray), .string (⟨#[]⟩ : ByteArray), .int .i64 0, .int .i64 0] 156 ?_; intro gb884 hg w6 hbox hb; have BK884 := Aside0.mk (hbox); have GW884 := geS hg; have GE884 := geS hg; replace HO_3 := rb HO_3 hb; replace HB := bst hb; clear hb hbox hg; obtain ⟨hcz7_0, hcz7_1, hcz7_2, hcz7_3, hcz7_4, hcz7_5, hcz7_6, hfz7_0, hfz7_1, hfz7_2, hfz7_3, hfz7_4, hfz7_5, hfz7_6⟩ := cells7 BK884.out) | ((with_reducible refine gate_builtin (b := .append) (xs := #[.tmp 12, .tmp 24]) rfl ?_); at_builtin; refine Kd.R_append k159 (w0 := w) w.heap.size rfl (.tmp 12) (.tmp 24) 91 159 (.agg #[(.int .i64 0), (.int .i64 0), (.int .i64 0), (.string ⟨#[]⟩), (.string ⟨#[]⟩), (.int .i64 0), (.int .i64 0)]) 72 rfl Tryd.underlying91 info159 rfl (by decide) (by omega) u3 x3_1 (⟨(rd_T156 l0 x8_1).f0, (⟨(rd_T156 l0 x8_1).f1.f0, (rd_T156 l0 x8_1).f1.f1, (rd_T156 l0 x8_1).f1.f2⟩ : S106), (rd_T156 l0 x8_1).f2, (rd_T156 l0 x8_1).f3, (rd_T156 l0 x8_1).f4⟩ : S159) [.int .i64 ((rd_T156 l0 x8_1).f0), .int .i64 ((rd_T156 l0 x8_1).f1.f0), .int .i64 ((rd_T156 l0 x8_1).f1.f1), .string ((rd_T156 l0 x8_1).f1.f2), .string ((rd_T156 l0 x8_1).f2), .int .i64 ((rd_T156 l0 x8_1).f3), .int .i64 ((rd_T156 l0 x8_1).f4)] (fun _ => True) (fun _ => False) rfl (by first | (go_simp; done) | (go_simp; rfl)) ?aP (fun _ hk => hk.elim) ?aF ?aO ?aB ?aS ?aL ?_; (case aP => exact k159_mkM _ _ _ (⟨(rd_T156 l0 x8_1).f0, (⟨(rd_T156 l0 x8_1).f1.f0, (rd_T156 l0 x8_1).f1.f1, (rd_T156 l0 x8_1).f1.f2⟩ : S106), (rd_T156 l0 x8_1).f2, (rd_T156 l0 x8_1).f3, (rd_T156 l0 x8_1).f4⟩ : S159)); (case aB => exact qB); (case aF => exact (fun _ _ => trivial)); (case aO => exact (by (with_reducible repeat (first | apply Kd.R_alloc | apply Kd.R_drewN | apply Kd.R_drew)); exact Kd.R_mono (Kd.R_far (p := ⟨gb884, 6, none⟩) (Kd.R_far (p := ⟨gb884, 5, none⟩) (Kd.R_far (p := ⟨gb884, 4, none⟩) (Kd.R_far (p := ⟨gb884, 3, none⟩) (Kd.R_far (p := ⟨gb884, 2, none⟩) (Kd.R_far (p := ⟨gb884, 1, none⟩) (Kd.R_far (p := ⟨gb884, 0, none⟩) (Kd.R_types HO_3.out BK884.out (by decide)) (fun _ hk => hk.2) (.int .i64 ((rd_T156 l0 x8_1).f0))) (fun _ hk => hk.2) (.int .i64 ((rd_T156 l0 x8_1).f1.f0))) (fun _ hk => hk.2) (.int .i64 ((rd_T156 l0 x8_1).f1.f1))) (fun _ hk => hk.2) (.string ((rd_T156 l0 x8_1).f1.f2))) (fun _ hk => hk.2) (.string ((rd_T156 l0 x8_1).f2))) (fun _ hk => hk.2) (.int .i64 ((rd_T156 l0 x8_1).f3))) (fun _ hk => hk.2) (.int .i64 ((rd_T156 l0 x8_1).f4))) (fun _ hk => trivial))); (case aS => exact (below_size qB)); (case aL => have := LMc5.out; omega); intro v886 w8 ho hb hg hat; rw [← Ny885.out] at ho; have n0_ := Aside0.mk (blk_grown (g := gb884) (o := .cells #[.int .i64 ((rd_T156 l0 x8_1).f0), .int .i64 ((rd_T156 l0 x8_1).f1.f0), .int .i64 ((rd_T156 l0 x8_1).f1.f1), .string ((rd_T156 l0 x8_1).f1.f2), .string ((rd_T156 l0 x8_1).f2), .int .i64 ((rd_T156 l0 x8_1).f3), .int .i64 ((rd_T156 l0 x8_1).f4)] 156 (0, 0)) qP hg (Kd.R_ne HO_3.out BK884.out (by decide))); have n1_ := Aside0.mk (hb); have n2_ := Aside0.mk (ho); clear BK884; clear HB; clear HO_3; have BK884 := n0_; have HB := n1_; have HO887 := n2_; clear n0_ n1_ n2_; clear ho hb hg hat))
       go_roundg k1
       case measure => have := HK1.out; omega
       case rel => exact ⟨(y885), (wrap64 (x8_1 + 1)), (by first | rfl | (simp; done) | (simp [*]; done)), H', ⟨by have := HK1.out; omega⟩, ⟨by (with_reducible repeat (first | apply Kd.R_alloc | apply Kd.R_drewN | apply Kd.R_drew)); exact HO887.out⟩, ⟨qB⟩⟩
      ·rw [if_neg c5] at H
       exact absurd H (by simp)
     ·exact absurd H (by simp)
    ·rw [if_neg c3] at H
     exact absurd H (by simp)
   ·obtain rfl := Option.some.inj H
    go_wp2
    go_ret
    exact ⟨_, qR, by (with_reducible repeat (first | apply Kd.R_alloc | apply Kd.R_drewN | apply Kd.R_drew)); exact HO_3.out, qB⟩
end Go.Proofs.YtbngfhlciebeeaaDoor.L
end
section
namespace Go.Proofs.YtbngfhlciebeeaaDoor.L
open Go.RowKit Go.Proofs.YtbngfhlciebeeaaDoorW.PrintWords Go.Proofs.YtbngfhlciebeeaaDoorW.PrintLast Go.Proofs.YtbngfhlciebeeaaDoorW.PrintMore
attribute [local go_sem] max2_int min2_int max_two min_two max_three min_three max_four min_four   -- for this text's walks alone
set_option linter.unusedVariables false
set_option linter.unusedSimpArgs false
def kind_Is.f (k : Nat) (l0 : List (S156)) (l1_0 : List (S118)) (l1_1 : List ByteArray) (a2 : Int) : Option (Int) := (kind_Of.f k l0 l1_0 l1_1).bind fun bt889 => (if bt889.2 = 0 then (if bt889.1 = a2 then (some 0) else (some 20)) else (some bt889.2))
set_option maxHeartbeats 8000000 in
set_option maxRecDepth 100000 in
theorem kind_Is.calls (k : Nat) (A0 : Option Addr) (c0 : Nat) (l0 : List (S156)) (A1_0 : Option Addr) (c1_0 : Nat) (l1_0 : List (S118)) (A1_1 : Option Addr) (c1_1 : Nat) (l1_1 : List ByteArray) (a2 : Int) (r : Int) (w : World) (hr0 : Kd.C k156 w A0 l0.length l0) (hc0 : l0.length ≤ c0) (hr1_0 : Kd.C k118 w A1_0 l1_0.length l1_0) (hc1_0 : l1_0.length ≤ c1_0) (hr1_1 : Kd.C Kd.string w A1_1 l1_1.length l1_1) (hc1_1 : l1_1.length ≤ c1_1) (hL : Laid w) (h : kind_Is.f k l0 l1_0 l1_1 a2 = some r) :
  Calls Tryd.prog 57 #[.slice A0 l0.length c0, .agg #[.slice A1_0 l1_0.length c1_0, .slice A1_1 l1_1.length c1_1], .int .i64 a2] w fun e w' => e = .returned (.int .i64 r) ∧ Below w.heap.size w w' := by
 have hu78 := Tryd.underlying78
 have HR0 := Aside0.mk hr0
 have HC0 := Aside0.mk hc0
 clear hr0 hc0
 have HR1_0 := Aside0.mk hr1_0
 have HC1_0 := Aside0.mk hc1_0
 clear hr1_0 hc1_0
 have HR1_1 := Aside0.mk hr1_1
 have HC1_1 := Aside0.mk hc1_1
 clear hr1_1 hc1_1
 have HB := Aside0.mk (Below.refl w.heap.size w)
 have HLD := Aside0.mk hL
 clear hL
 have H : ((kind_Of.f k l0 l1_0 l1_1).bind fun bt889 => (if bt889.2 = 0 then (if bt889.1 = a2 then (some 0) else (some 20)) else (some bt889.2))) = some r := h
 clear h
 replace H := Option.bind_eq_some_iff.mp H
 obtain ⟨⟨t889, t890⟩, A40, H⟩ := H
 (try dsimp -simprocs only at H)
 have A4 := Aside0.mk A40
 clear A40
 by_cases c5 : t890 = 0
 ·rw [if_pos c5] at H
  have c5b0 := beq_iff_eq.mpr c5
  have c5b1 := bne_eq_false_iff_eq.mpr c5
  clear c5
  by_cases c6 : t889 = a2
  ·rw [if_pos c6] at H
   have c6b0 := beq_iff_eq.mpr c6
   have c6b1 := bne_eq_false_iff_eq.mpr c6
   clear c6
   obtain rfl := Option.some.inj H
   go_enter Tryd.func57, Tryd.ntmps57
   go_wp2_with (first | ((with_reducible refine gd 4 rfl ?_); refine bx 4 #[.slice A1_0 l1_0.length c1_0, .slice A1_1 l1_1.length c1_1] 78 ?_; intro gb888 hg w7 hbox hb; have BK888 := Aside0.mk (hbox); have GW888 := geS hg; have GE888 := geS hg; replace HB := bst hb; clear hb hbox hg; obtain ⟨hcz8_0, hcz8_1, hfz8_0, hfz8_1⟩ := cells2 BK888.out) | ((with_reducible refine gc 54 rfl ?_); refine gl (some 12) #[.slice A0 l0.length c0, .agg #[.slice A1_0 l1_0.length c1_0, .slice A1_1 l1_1.length c1_1]] Tryd.func54 ?_; (with_reducible refine (kind_Of.calls k _ _ l0 _ _ l1_0 _ _ l1_1 t889 t890 _ ?side1 ?side2 ?side3 ?side4 ?side5 ?side6 ?side7 A4.out).mono ?_); (case side1 => exact qC); (case side2 => exact HC0.out); (case side3 => exact qC); (case side4 => exact HC1_0.out); (case side5 => exact qC); (case side6 => exact HC1_1.out); (case side7 => exact Laid.below HLD.out qB); rintro e w9 ⟨rfl, hb⟩; refine ⟨_, rfl, ?_⟩; replace BK888 := kb gb888 hb; replace HB := bst hb; (try clear hb)))
   go_ret
   exact ⟨qR, qB⟩
  ·rw [if_neg c6] at H
   have c6b0 := beq_eq_false_iff_ne.mpr c6
   have c6b1 := bne_iff_ne.mpr c6
   obtain rfl := Option.some.inj H
   go_enter Tryd.func57, Tryd.ntmps57
   go_wp2_with (first | ((with_reducible refine gd 4 rfl ?_); refine bx 4 #[.slice A1_0 l1_0.length c1_0, .slice A1_1 l1_1.length c1_1] 78 ?_; intro gb888 hg w10 hbox hb; have BK888 := Aside0.mk (hbox); have GW888 := geS hg; have GE888 := geS hg; replace HB := bst hb; clear hb hbox hg; obtain ⟨hcz11_0, hcz11_1, hfz11_0, hfz11_1⟩ := cells2 BK888.out) | ((with_reducible refine gc 54 rfl ?_); refine gl (some 12) #[.slice A0 l0.length c0, .agg #[.slice A1_0 l1_0.length c1_0, .slice A1_1 l1_1.length c1_1]] Tryd.func54 ?_; (with_reducible refine (kind_Of.calls k _ _ l0 _ _ l1_0 _ _ l1_1 t889 t890 _ ?side1 ?side2 ?side3 ?side4 ?side5 ?side6 ?side7 A4.out).mono ?_); (case side1 => exact qC); (case side2 => exact HC0.out); (case side3 => exact qC); (case side4 => exact HC1_0.out); (case side5 => exact qC); (case side6 => exact HC1_1.out); (case side7 => exact Laid.below HLD.out qB); rintro e w12 ⟨rfl, hb⟩; refine ⟨_, rfl, ?_⟩; replace BK888 := kb gb888 hb; replace HB := bst hb; (try clear hb)))
   go_ret
   exact ⟨qR, qB⟩
 ·rw [if_neg c5] at H
  have c5b0 := beq_eq_false_iff_ne.mpr c5
  have c5b1 := bne_iff_ne.mpr c5
  obtain rfl := Option.some.inj H
  go_enter Tryd.func57, Tryd.ntmps57
  go_wp2_with (first | ((with_reducible refine gd 4 rfl ?_); refine bx 4 #[.slice A1_0 l1_0.length c1_0, .slice A1_1 l1_1.length c1_1] 78 ?_; intro gb888 hg w13 hbox hb; have BK888 := Aside0.mk (hbox); have GW888 := geS hg; have GE888 := geS hg; replace HB := bst hb; clear hb hbox hg; obtain ⟨hcz14_0, hcz14_1, hfz14_0, hfz14_1⟩ := cells2 BK888.out) | ((with_reducible refine gc 54 rfl ?_); refine gl (some 12) #[.slice A0 l0.length c0, .agg #[.slice A1_0 l1_0.length c1_0, .slice A1_1 l1_1.length c1_1]] Tryd.func54 ?_; (with_reducible refine (kind_Of.calls k _ _ l0 _ _ l1_0 _ _ l1_1 t889 t890 _ ?side1 ?side2 ?side3 ?side4 ?side5 ?side6 ?side7 A4.out).mono ?_); (case side1 => exact qC); (case side2 => exact HC0.out); (case side3 => exact qC); (case side4 => exact HC1_0.out); (case side5 => exact qC); (case side6 => exact HC1_1.out); (case side7 => exact Laid.below HLD.out qB); rintro e w15 ⟨rfl, hb⟩; refine ⟨_, rfl, ?_⟩; replace BK888 := kb gb888 hb; replace HB := bst hb; (try clear hb)))
  go_ret
  exact ⟨qR, qB⟩
end Go.Proofs.YtbngfhlciebeeaaDoor.L
end
section
namespace Go.Proofs.YtbngfhlciebeeaaDoor.Sp
set_option linter.unusedVariables false
set_option linter.unusedSimpArgs false
open Go.RowKit Go.Proofs.YtbngfhlciebeeaaDoorW.PrintWords Go.Proofs.YtbngfhlciebeeaaDoorW.PrintMore Go.Proofs.YtbngfhlciebeeaaDoor.L
def resK (op a b : Int) : Int :=
  if op = 1 then (if a = 2 then 2 else 0)
  else if op = 2 then (if a = 1 then 1 else 0)
  else if op = 6 then (if a = b ∧ (a = 1 ∨ a = 3) then a else 0)
  else if op ≤ 7 then (if a = 1 ∧ b = 1 then 1 else 0)
  else if op ≤ 11 then (if a = b ∧ (a = 1 ∨ a = 3) then 2 else 0)
  else if op ≤ 13 then (if a = b ∧ 1 ≤ a ∧ a ≤ 3 then 2 else 0)
  else if a = 2 ∧ b = 2 then 2 else 0
theorem op_cases {op : Int} (h : 1 ≤ op ∧ op ≤ 15) : op = 1 ∨ op = 2 ∨ op = 3 ∨ op = 4 ∨ op = 5 ∨ op = 6 ∨ op = 7 ∨ op = 8 ∨ op = 9 ∨ op = 10 ∨ op = 11 ∨ op = 12 ∨ op = 13 ∨ op = 14 ∨ op = 15 := by omega
def vres (op a b : Int) : Int × Bool :=
  if op = 1 then (2, a == 2)
  else if op = 2 then (1, a == 1)
  else if op = 6 then (if a = b then (if a = 1 then (a, true) else (a, a == 3)) else (a, false))
  else if op ≤ 7 then (if a = 1 then (1, b == 1) else (1, false))
  else if op ≤ 11 then (if a = b then (if a = 1 then (2, true) else (2, a == 3)) else (2, false))
  else if op ≤ 13 then (if a = b then (if a ≥ 1 then (2, decide (a ≤ 3)) else (2, false)) else (2, false))
  else (if a = 2 then (2, b == 2) else (2, false))
theorem vResult_f {op : Int} (h : 1 ≤ op ∧ op ≤ 15) (a b : Int) (k : Nat) : val_Result.f (k + 3) op a b = some (vres op a b) := by
  rcases op_cases h with rfl | rfl | rfl | rfl | rfl | rfl | rfl | rfl | rfl | rfl | rfl | rfl | rfl | rfl | rfl
  all_goals (simp [val_Result.f, val_Result.j0, val_Result.j1, val_Result.j2, vres])
  all_goals (repeat' split)
  all_goals (first | rfl | (simp_all; done))
theorem vres_is {op : Int} (h : 1 ≤ op ∧ op ≤ 15) (a b : Int) : ((vres op a b).2 = true → (vres op a b).1 = resK op a b ∧ resK op a b ≠ 0) ∧ ((vres op a b).2 = false → resK op a b = 0) := by
  rcases op_cases h with rfl | rfl | rfl | rfl | rfl | rfl | rfl | rfl | rfl | rfl | rfl | rfl | rfl | rfl | rfl
  all_goals (simp [vres, resK])
  all_goals (repeat' split)
  all_goals (simp_all)
  all_goals (first | omega | (intros; omega) | (constructor <;> intros <;> omega))
theorem vResult_ev {op : Int} (h : 1 ≤ op ∧ op ≤ 15) (a b : Int) : Ev (fun k => val_Result.f k op a b) (vres op a b) := ⟨3, fun k hk => by obtain ⟨j, rfl⟩ : ∃ j, k = j + 3 := ⟨k - 3, by omega⟩; exact vResult_f h a b j⟩
theorem rResult_f {op : Int} (h : 1 ≤ op ∧ op ≤ 15) (a b : Int) (k : Nat) : whirligigref01_Result.f (k + 6) op a b = some (resK op a b) := by
  rcases op_cases h with rfl | rfl | rfl | rfl | rfl | rfl | rfl | rfl | rfl | rfl | rfl | rfl | rfl | rfl | rfl
  all_goals (simp [whirligigref01_Result.f, whirligigref01_Result.j0, whirligigref01_Result.j1, whirligigref01_Result.j2, whirligigref01_Result.j3, whirligigref01_Result.j4, whirligigref01_Result.j5, resK])
  all_goals (repeat' split)
  all_goals (simp_all)
  all_goals (first | omega | (intros; omega))
theorem rResult_ev {op : Int} (h : 1 ≤ op ∧ op ≤ 15) (a b : Int) : Ev (fun k => whirligigref01_Result.f k op a b) (resK op a b) := ⟨6, fun k hk => by obtain ⟨j, rfl⟩ : ∃ j, k = j + 6 := ⟨k - 6, by omega⟩; exact rResult_f h a b j⟩
def ref159 (x : S156) : S159 := ⟨x.f0, ⟨x.f1.f0, x.f1.f1, x.f1.f2⟩, x.f2, x.f3, x.f4⟩
def v151 (x : S118) : S151 := ⟨x.f0, x.f1⟩
theorem rd159 {l : List S156} {j : Nat} (h : j < l.length) : rd_T159 (l.map ref159) (j : Int) = ref159 l[j] := by
  unfold rd_T159
  rw [Int.toNat_natCast, List.getD_eq_getElem?_getD, List.getElem?_map, List.getElem?_eq_getElem h]
  rfl
theorem rd151 {l : List S118} {j : Nat} (h : j < l.length) : rd_T151 (l.map v151) (j : Int) = v151 l[j] := by
  unfold rd_T151
  rw [Int.toNat_natCast, List.getD_eq_getElem?_getD, List.getElem?_map, List.getElem?_eq_getElem h]
  rfl
theorem rd118' {l : List S118} {j : Nat} (h : j < l.length) : rd_T118 l (j : Int) = l[j] := by
  unfold rd_T118
  rw [Int.toNat_natCast, List.getD_eq_getElem?_getD, List.getElem?_eq_getElem h]
  rfl
def lookV (s : ByteArray) : List S118 → Option Int
  | [] => none
  | v :: vs => if v.f0 = s then some v.f1 else lookV s vs
theorem lookV_idx (s : ByteArray) : ∀ (vs : List S118), (match vs.findIdx? (fun x => decide (x.f0 = s)) with | some j => j < vs.length ∧ lookV s vs = some (vs.getD j ⟨⟨#[]⟩, 0⟩).f1 | none => lookV s vs = none)
  | [] => rfl
  | v :: vs => by
    have ih := lookV_idx s vs
    rw [List.findIdx?_cons]
    by_cases h : v.f0 = s
    · rw [decide_eq_true h]
      simp only [if_true]
      exact ⟨by simp, by simp [lookV, h]⟩
    · rw [decide_eq_false h]
      simp only [Bool.false_eq_true, if_false]
      cases hx : vs.findIdx? (fun x => decide (x.f0 = s)) with
      | none => rw [hx] at ih; simp [lookV, h]; exact ih
      | some j =>
        rw [hx] at ih
        simp only [Option.map_some, lookV, if_neg h]
        exact ⟨by simp; exact ih.1, by simpa using ih.2⟩
theorem find_eq (vs : List S118) (ss : List ByteArray) (s : ByteArray) : kind_Scope_find.f vs ss s = some (match lookV s vs with | some k => (k, true) | none => (0, false)) := by
  have h := lookV_idx s vs
  unfold kind_Scope_find.f
  cases hx : vs.findIdx? (fun x => decide (x.f0 = s)) with
  | none =>
    rw [hx] at h
    have : idxVar s vs = -1 := by unfold idxVar; rw [hx]
    rw [this, h]; rfl
  | some j =>
    rw [hx] at h
    have : idxVar s vs = (j : Int) := by unfold idxVar; rw [hx]
    obtain ⟨h1, h2⟩ := h
    rw [this, if_pos (by omega), rd118' h1, h2, List.getD_eq_getElem?_getD]
    simp only [List.getElem?_eq_getElem h1]
    rfl
theorem rfind_l0 (i : Int) (vs : List S118) (hv : vs.length ≤ 1000) (x : S156) : ∀ (d j : Nat), j ≤ vs.length → vs.length - j = d →
    Ev (fun k => whirligigref04_Of.l0 k i (vs.map v151) (j : Int) x.f0 x.f1.f0 x.f1.f1 x.f1.f2 x.f2 x.f3 x.f4) (match lookV x.f2 (vs.drop j) with | some k => (k, 0, 0) | none => (0, 24, i)) := by
  intro d
  induction d with
  | zero =>
    intro j hj hd
    refine Ev.succ ?_
    simp only [whirligigref04_Of.l0]
    rw [List.drop_eq_nil_of_le (by omega)]
    exact Ev.neg (by simp; omega) (Ev.some rfl)
  | succ d ih =>
    intro j hj hd
    have hjl : j < vs.length := by omega
    refine Ev.succ ?_
    simp only [whirligigref04_Of.l0]
    rw [rd151 hjl, up1 (by omega), List.drop_eq_getElem_cons hjl]
    refine Ev.pos (by simp; omega) (Ev.pos (by omega) ?_)
    by_cases h : vs[j].f0 = x.f2
    · simp only [lookV, if_pos h]
      exact Ev.pos (toL_inj.2 h) (Ev.some rfl)
    · simp only [lookV, if_neg h]
      exact Ev.neg (fun e => h (toL_inj.1 e)) (ih (j + 1) (by omega) (by omega))
theorem rdB {l : List ByteArray} {j : Nat} (h : j < l.length) : rdOf ByteArray.empty l (j : Int) = l[j] := by
  unfold rdOf
  rw [Int.toNat_natCast, List.getD_eq_getElem?_getD, List.getElem?_eq_getElem h]; rfl
def hasS (s : ByteArray) (ss : List ByteArray) : Bool := ss.any fun x => decide (x = s)
theorem hasS_cons (s x : ByteArray) (ss : List ByteArray) : hasS s (x :: ss) = (decide (x = s) || hasS s ss) := rfl
theorem index_l0 (ss : List ByteArray) (hs : ss.length ≤ 8796093022208) (s : ByteArray) : ∀ (d j : Nat), j ≤ ss.length → ss.length - j = d →
    ∃ r, Ev (fun k => slices_Index_string_string.l0 k ss s (ss.length : Int) (j : Int)) r ∧ decide (r ≥ 0) = hasS s (ss.drop j) := by
  intro d
  induction d with
  | zero =>
    intro j hj hd
    refine ⟨-1, Ev.succ ?_, ?_⟩
    · simp only [slices_Index_string_string.l0]
      exact Ev.neg (by omega) (Ev.some rfl)
    · rw [List.drop_eq_nil_of_le (by omega)]; rfl
  | succ d ih =>
    intro j hj hd
    have hjl : j < ss.length := by omega
    obtain ⟨r, hr, hd'⟩ := ih (j + 1) (by omega) (by omega)
    by_cases h : s = ss[j]
    · refine ⟨(j : Int), Ev.succ ?_, ?_⟩
      · simp only [slices_Index_string_string.l0]
        rw [rdB hjl]
        exact Ev.pos (by omega) (Ev.pos (by omega) (Ev.pos (by omega) (Ev.pos (toL_inj.2 h) (Ev.some rfl))))
      · rw [List.drop_eq_getElem_cons hjl, decide_eq_true (by omega), hasS_cons, decide_eq_true h.symm]; rfl
    · refine ⟨r, Ev.succ ?_, ?_⟩
      · simp only [slices_Index_string_string.l0]
        rw [rdB hjl, up1 (by omega)]
        exact Ev.pos (by omega) (Ev.pos (by omega) (Ev.pos (by omega) (Ev.neg (fun e => h (toL_inj.1 e)) hr)))
      · rw [hd', List.drop_eq_getElem_cons hjl, hasS_cons, decide_eq_false (Ne.symm h)]; rfl
theorem contains_ev (ss : List ByteArray) (hs : ss.length ≤ 8796093022208) (s : ByteArray) : Ev (fun k => slices_Contains_string_string.f k ss s) (hasS s ss) := by
  obtain ⟨r, hr, hd⟩ := index_l0 ss hs s ss.length 0 (by omega) (by omega)
  unfold slices_Contains_string_string.f
  refine Ev.bind (a := r) (by unfold slices_Index_string_string.f; exact hr) (Ev.some ?_)
  rw [hd, List.drop_zero]
theorem rfind_l1 (i : Int) (ss : List ByteArray) (hs : ss.length ≤ 8796093022208) (x : S156) : ∀ (d j : Nat), j ≤ ss.length → ss.length - j = d →
    Ev (fun k => whirligigref04_Of.l1 k i ss (j : Int) x.f0 x.f1.f0 x.f1.f1 x.f1.f2 x.f2 x.f3 x.f4) (if hasS x.f2 (ss.drop j) = true then (2, 0, 0) else (0, 24, i)) := by
  intro d
  induction d with
  | zero =>
    intro j hj hd
    refine Ev.succ ?_
    simp only [whirligigref04_Of.l1]
    rw [List.drop_eq_nil_of_le (by omega)]
    exact Ev.neg (by omega) (Ev.some rfl)
  | succ d ih =>
    intro j hj hd
    have hjl : j < ss.length := by omega
    refine Ev.succ ?_
    simp only [whirligigref04_Of.l1]
    rw [rdB hjl, up1 (by omega), List.drop_eq_getElem_cons hjl]
    refine Ev.pos (by omega) (Ev.pos (by omega) ?_)
    by_cases h : ss[j] = x.f2
    · rw [if_pos (by rw [hasS_cons, decide_eq_true h]; rfl)]
      exact Ev.pos (toL_inj.2 h) (Ev.some rfl)
    · rw [show hasS x.f2 (ss[j] :: ss.drop (j + 1)) = hasS x.f2 (ss.drop (j + 1)) by rw [hasS_cons, decide_eq_false h]; rfl]
      exact Ev.neg (fun e => h (toL_inj.1 e)) (ih (j + 1) (by omega) (by omega))
theorem refs04_l0 (l : List S156) (hl : l.length ≤ 1000) : ∀ (d j : Nat), j ≤ l.length → l.length - j = d → Ev (fun k => whirligiglaw04_refs.l0 k ((l.take j).map ref159) l (l.length : Int) (j : Int)) (l.map ref159) := by
  intro d
  induction d with
  | zero =>
    intro j hj hd
    refine Ev.succ ?_
    simp only [whirligiglaw04_refs.l0]
    rw [List.take_of_length_le (by omega)]
    exact Ev.neg (by omega) (Ev.some rfl)
  | succ d ih =>
    intro j hj hd
    have hjl : j < l.length := by omega
    have hi := ih (j + 1) (by omega) (by omega)
    rw [List.take_add_one, List.getElem?_eq_getElem hjl, List.map_append] at hi
    refine Ev.succ ?_
    simp only [whirligiglaw04_refs.l0]
    rw [rd156 hjl, up1 (by omega)]
    exact Ev.pos (by omega) (Ev.pos (by omega) (Ev.pos (by omega) (Ev.pos (by rw [List.length_map, List.length_take]; omega) hi)))
theorem refs04_ev (l : List S156) (hl : l.length ≤ 1000) : Ev (fun k => whirligiglaw04_refs.f k l) (l.map ref159) := by
  have := refs04_l0 l hl l.length 0 (by omega) (by omega)
  unfold whirligiglaw04_refs.f
  exact this
end Go.Proofs.YtbngfhlciebeeaaDoor.Sp
end
