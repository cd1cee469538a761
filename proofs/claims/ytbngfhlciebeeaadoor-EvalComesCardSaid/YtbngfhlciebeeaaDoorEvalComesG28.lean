/- Printed and hand-written steps towards the row (EvalComes), those that it reaches. -/
import Derived.Test.YtbngfhlciebeeaaDoorEvalComesG3
import Derived.Test.YtbngfhlciebeeaaDoorEvalComesG4
import Derived.Test.YtbngfhlciebeeaaDoorEvalComesG21
import Derived.Test.YtbngfhlciebeeaaDoorEvalComesG15
import Derived.Test.YtbngfhlciebeeaaDoorEvalComesG19
import Derived.Test.YtbngfhlciebeeaaDoorEvalComesG20
import Derived.Test.YtbngfhlciebeeaaDoorEvalComesLxf62
import Derived.Test.YtbngfhlciebeeaaDoorEvalComesG27
section
namespace Go.Proofs.YtbngfhlciebeeaaDoor.L
open Go.RowKit Go.Proofs.YtbngfhlciebeeaaDoorW.PrintWords Go.Proofs.YtbngfhlciebeeaaDoorW.PrintLast Go.Proofs.YtbngfhlciebeeaaDoorW.PrintMore
attribute [local go_sem] max2_int min2_int max_two min_two max_three min_three max_four min_four   -- for this text's walks alone
set_option linter.unusedVariables false
set_option linter.unusedSimpArgs false
attribute [local go_sem high] eqA106
mutual
def whirligiglaw05_EvalComes.j0 : Nat → ByteArray → List (S166) → Bool → List (S116) → List ByteArray → Option (Bool)
 | 0, _, _, _, _, _ => none
 | k + 1, x0, x5, x28, x1297000, x1297001 => if x28 = true then (some true) else ((expr_Read.f k x0).bind fun bt1302 => (if bt1302.2 = 0 then ((eval_Eval.f k bt1302.1 x1297000 x1297001).bind fun bt1306 => ((whirligiglaw05_refs.f k bt1302.1).bind fun t1311 => ((whirligigref05_Eval.f k t1311 (wrap64 ((bt1302.1.length : Int) - 1)) x5 x1297001).bind fun bt1314 => (if bt1306.2.2.2 = bt1314.2.2.2 then (whirligiglaw05_EvalComes.j1 k bt1302.1 bt1314.2.2.2 (!(bt1306.1 == bt1314.1) || (!(bt1306.2.1 == bt1314.2.1) || (!(bt1306.2.2.1.toList == bt1314.2.2.1.toList)))) x1297000 x1297001 bt1314.1 bt1314.2.1 bt1314.2.2.1) else (whirligiglaw05_EvalComes.j1 k bt1302.1 bt1314.2.2.2 true x1297000 x1297001 bt1314.1 bt1314.2.1 bt1314.2.2.1))))) else (some true)))
def whirligiglaw05_EvalComes.j1 : Nat → List (S156) → Int → Bool → List (S116) → List ByteArray → Int → Int → ByteArray → Option (Bool)
 | 0, _, _, _, _, _, _, _, _ => none
 | k + 1, x7, x12, x61, x1297000, x1297001, x1319000, x1319001, x1319002 => if x61 = true then (some false) else ((eval_Holds.f k x7 x1297000 x1297001).bind fun bt1319 => (if x12 = 0 then (if x1319000 = 2 then (if bt1319.2 = 0 then (some (bt1319.1 == (x1319001 == 1))) else (some false)) else (if bt1319.2 = 20 then (some (!bt1319.1)) else (some false))) else (if bt1319.2 = x12 then (some (!bt1319.1)) else (some false))))
end
def whirligiglaw05_EvalComes.f (k : Nat) (a0 : ByteArray) (l1_0 : List (S116)) (l1_1 : List ByteArray) : Option (Bool) := (whirligiglaw05_anchor.f k).bind fun t1297 => (if t1297 = true then ((whirligiglaw05_cells.f k l1_0 l1_1).bind fun bt1298 => (if bt1298.2 = true then (whirligiglaw05_EvalComes.j0 k a0 bt1298.1 (decide ((a0.size : Int) > 600)) l1_0 l1_1) else (whirligiglaw05_EvalComes.j0 k a0 bt1298.1 true l1_0 l1_1))) else (some false))
def whirligiglaw05_EvalComes.T10 : Bool × List (List Nat × List Nat) := (true, [([], []), ([0], [0]), ([], []), ([2], [2]), ([3], [3]), ([], []), ([], []), ([6], [6]), ([1, 4, 5, 7, 1], [1, 4, 5, 7]), ([8], [8]), ([9], [9]), ([9], [9]), ([], []), ([12, 10, 8, 0, 1, 2, 3, 4, 5, 6, 7, 8, 9, 10, 12], [10, 12]), ([11, 13, 0, 1, 2, 3, 4, 5, 6, 7, 8, 9, 10, 11, 12, 13], [11])])
def whirligiglaw05_EvalComes.B10 : List Nat := [0, 1, 0, 4, 12, 0, 0, 64, 255, 511, 1023, 1023, 0, 6143, 16383]
theorem whirligiglaw05_EvalComes.tab10 : rtab .any (opsOf Tryd.f15 10) = whirligiglaw05_EvalComes.T10 := by kernel_rfl
theorem whirligiglaw05_EvalComes.bits10 : waitsOk whirligiglaw05_EvalComes.T10.2 whirligiglaw05_EvalComes.B10 = true := by kernel_rfl
set_option maxHeartbeats 8000000 in
set_option maxRecDepth 100000 in
theorem whirligiglaw05_EvalComes.calls (k : Nat) (a0 : ByteArray) (A1_0 : Option Addr) (c1_0 : Nat) (l1_0 : List (S116)) (A1_1 : Option Addr) (c1_1 : Nat) (l1_1 : List ByteArray) (r : Bool) (w : World) (hr1_0 : Kd.C k116 w A1_0 l1_0.length l1_0) (hc1_0 : l1_0.length ≤ c1_0) (hr1_1 : Kd.C Kd.string w A1_1 l1_1.length l1_1) (hc1_1 : l1_1.length ≤ c1_1) (hL : Laid w) (h : whirligiglaw05_EvalComes.f k a0 l1_0 l1_1 = some r) :
  Calls Tryd.prog 15 #[.string a0, .agg #[.slice A1_0 l1_0.length c1_0, .slice A1_1 l1_1.length c1_1]] w fun e w' => e = .returned (.bool r) ∧ Below w.heap.size w w' := by
 have hu98 := Tryd.underlying98
 have hu103 := Tryd.underlying103
 have hu106 := Tryd.underlying106
 have HR1_0 := Aside0.mk hr1_0
 have HC1_0 := Aside0.mk hc1_0
 clear hr1_0 hc1_0
 have HR1_1 := Aside0.mk hr1_1
 have HC1_1 := Aside0.mk hc1_1
 clear hr1_1 hc1_1
 have HB := Aside0.mk (Below.refl w.heap.size w)
 have HLD := Aside0.mk hL
 clear hL
 have H : ((whirligiglaw05_anchor.f k).bind fun t1297 => (if t1297 = true then ((whirligiglaw05_cells.f k l1_0 l1_1).bind fun bt1298 => (if bt1298.2 = true then (whirligiglaw05_EvalComes.j0 k a0 bt1298.1 (decide ((a0.size : Int) > 600)) l1_0 l1_1) else (whirligiglaw05_EvalComes.j0 k a0 bt1298.1 true l1_0 l1_1))) else (some false))) = some r := h
 clear h
 replace H := Option.bind_eq_some_iff.mp H
 obtain ⟨t1297, A30, H⟩ := H
 (try dsimp -simprocs only at H)
 have A3 := Aside0.mk A30
 clear A30
 by_cases c4 : t1297 = true
 ·subst c4
  rw [if_pos rfl] at H
  replace H := Option.bind_eq_some_iff.mp H
  obtain ⟨⟨t1298, t1301⟩, A50, H⟩ := H
  (try dsimp -simprocs only at H)
  have A5 := Aside0.mk A50
  clear A50
  have HC6 := Aside0.mk H
  clear H
  go_enter Tryd.func15, Tryd.ntmps15
  go_upto_region 4 with (first | ((with_reducible refine gate_dst (N := 3) rfl ?_); (try (refine gate_guard (by rfl) ?_; dsimp only)); refine box_event ?hg (N := 3) ?hd (cs := #[.slice A1_0 l1_0.length c1_0, .slice A1_1 l1_1.length c1_1]) (t := 98) ?hr ?_; (case hd => rfl); (case hg => rfl); (case hr => first | (go_simp; done) | (go_simp; rfl)); intro gb1296 hg w7 hbox hb; have BK1296 := Aside0.mk (hbox); have GW1296 := geS hg; have GE1296 := geS hg; replace HB := bst hb; clear hb hbox hg) | ((with_reducible refine gc 59 rfl ?_); refine gl (some 15) #[] Tryd.func59 ?_; (with_reducible refine (whirligiglaw05_anchor.calls k  true _ ?side1 A3.out).mono ?_); (case side1 => exact Laid.below HLD.out qB); rintro e w8 ⟨rfl, hb⟩; refine ⟨_, rfl, ?_⟩; replace BK1296 := kb gb1296 hb; replace HB := bst hb; (try clear hb); obtain ⟨_, _, _, _⟩ := cells2 BK1296.out) | ((with_reducible refine gc 60 rfl ?_); refine gl (some 19) #[.agg #[.slice A1_0 l1_0.length c1_0, .slice A1_1 l1_1.length c1_1]] Tryd.func60 ?_; (with_reducible refine (whirligiglaw05_cells.calls k _ _ l1_0 _ _ l1_1 t1298 t1301 _ ?side1 ?side2 ?side3 ?side4 A5.out).mono ?_); (case side1 => exact qC); (case side2 => exact HC1_0.out); (case side3 => exact qC); (case side4 => exact HC1_1.out); rintro e w10 ⟨v1299, rfl, ho0, hb⟩; refine ⟨_, rfl, ?_⟩; have HO1300 := Aside0.mk (Kd.R_lower ho0 (below_size qB)); replace BK1296 := kb gb1296 hb; replace HB := bst hb; (try clear hb); (try clear ho0)))
  (try simp only [Act.put, List.setIfInBounds_toArray, List.set_cons_zero, List.set_cons_succ])
  go_cut [28] (fun v28 wc => ∃ (kq : Nat) (x28_5 : Bool), v28 = .bool x28_5 ∧ Aside0 (whirligiglaw05_EvalComes.j0 kq a0 t1298 x28_5 l1_0 l1_1 = some r) ∧ Aside0 (kq ≤ k) ∧ Aside0 (Kd.R k166 166 wc w.heap.size (fun _ => True) v1299 t1298) ∧ Aside0 (wc.heap[gb1296]? = some (.cells #[(.slice A1_0 l1_0.length c1_0), (.slice A1_1 l1_1.length c1_1)] 98 (0, 0))) ∧ Aside0 (Below w.heap.size w wc))
  case first =>
   have H := HC6.out
   clear HC6
   by_cases c11 : t1301 = true
   ·subst c11
    rw [if_pos rfl] at H
    have H' := Aside0.mk H
    clear H
    go_wp2
    go_meet
    case rel => exact ⟨_, (decide ((a0.size : Int) > 600)), qE, H', ⟨by first | omega | exact Nat.le_refl _⟩, ⟨by (with_reducible repeat (first | apply Kd.R_alloc | apply Kd.R_drewN | apply Kd.R_drew)); exact HO1300.out⟩, ⟨qK⟩, ⟨qB⟩⟩
   replace c11 := Bool.eq_false_iff.mpr c11
   subst c11
   rw [if_neg (show ¬ (false = true) by decide)] at H
   have H' := Aside0.mk H
   clear H
   go_wp2
   go_meet
   case rel => exact ⟨_, (true), qE, H', ⟨by first | omega | exact Nat.le_refl _⟩, ⟨by (with_reducible repeat (first | apply Kd.R_alloc | apply Kd.R_drewN | apply Kd.R_drew)); exact HO1300.out⟩, ⟨qK⟩, ⟨qB⟩⟩
  case rest =>
   clear HC6
   try clear p2
   obtain ⟨kq, x28_5, rfl, HA, HJ5, HO_5, BK1296, HB⟩ := hcut
   cases kq with
   | zero => exact absurd HA.out (by simp [whirligiglaw05_EvalComes.j0])
   | succ kj5 =>
    have H := HA.out
    clear HA
    simp only [whirligiglaw05_EvalComes.j0] at H
    by_cases c12 : x28_5 = true
    ·subst c12; rw [if_pos rfl] at H; obtain rfl := Option.some.inj H
     go_wp2
     go_ret; exact ⟨qR, qB⟩
    replace c12 := Bool.eq_false_iff.mpr c12
    subst c12
    rw [if_neg (show ¬ (false = true) by decide)] at H
    replace H := Option.bind_eq_some_iff.mp H
    obtain ⟨⟨t1302, t1303⟩, A130, H⟩ := H
    (try dsimp -simprocs only at H)
    have A13 := Aside0.mk A130
    clear A130
    by_cases c14 : t1303 = 0
    ·rw [if_pos c14] at H; have c14b0 := beq_iff_eq.mpr c14; have c14b1 := bne_eq_false_iff_eq.mpr c14; clear c14; replace H := Option.bind_eq_some_iff.mp H; obtain ⟨⟨t1306, t1307, t1308, t1309⟩, A150, H⟩ := H; (try dsimp -simprocs only at H); have A15 := Aside0.mk A150; clear A150; replace H := Option.bind_eq_some_iff.mp H; obtain ⟨t1311, A160, H⟩ := H; (try dsimp -simprocs only at H); have A16 := Aside0.mk A160; clear A160; replace H := Option.bind_eq_some_iff.mp H; obtain ⟨⟨t1314, t1315, t1316, t1317⟩, A170, H⟩ := H; (try dsimp -simprocs only at H); have A17 := Aside0.mk A170; clear A170; have HC18 := Aside0.mk H; clear H
     try go_wp2_with (first | ((with_reducible refine gc 53 rfl ?_); refine gl (some 31) #[.string a0] Tryd.func53 ?_; (with_reducible refine (expr_Read.calls kj5 a0 t1302 t1303 _ ?side1 A13.out).mono ?_); (case side1 => exact Laid.below HLD.out qB); rintro e w19 ⟨v1304, rfl, ho0, hb⟩; refine ⟨_, rfl, ?_⟩; have HO1305 := Aside0.mk (Kd.R_lower ho0 (below_size qB)); replace BK1296 := kb gb1296 hb; replace HO_5 := rb HO_5 hb; replace HB := bst hb; (try clear hb); (try clear ho0); obtain ⟨_, _, _, _⟩ := cells2 BK1296.out; obtain ⟨Ao21, co21, eo21⟩ := Kd.R_slice HO1305.out; subst eo21) | ((with_reducible refine gc 61 rfl ?_); refine gl (some 39) #[.slice Ao21 t1302.length co21, .agg #[.slice A1_0 l1_0.length c1_0, .slice A1_1 l1_1.length c1_1]] Tryd.func61 ?_; (with_reducible refine (eval_Eval.calls kj5 _ _ t1302 _ _ l1_0 _ _ l1_1 t1306 t1307 t1308 t1309 _ ?side1 ?side2 ?side3 ?side4 ?side5 ?side6 ?side7 A15.out).mono ?_); (case side1 => exact cr HO1305); (case side2 => exact (Kd.R_reads' HO1305.out).2.1); (case side3 => exact qC); (case side4 => exact HC1_0.out); (case side5 => exact qC); (case side6 => exact HC1_1.out); (case side7 => exact Laid.below HLD.out qB); rintro e w22 ⟨rfl, hb⟩; refine ⟨_, rfl, ?_⟩; replace BK1296 := kb gb1296 hb; replace HO_5 := rb HO_5 hb; replace HO1305 := rb HO1305 hb; replace HB := bst hb; (try clear hb)) | ((with_reducible refine gate_dst (N := 9) rfl ?_); (try (refine gate_guard (by rfl) ?_; dsimp only)); refine box_event ?hg (N := 9) ?hd (cs := #[.int .i64 0, .int .i64 0, .string (⟨#[]⟩ : ByteArray)]) (t := 103) ?hr ?_; (case hd => rfl); (case hg => rfl); (case hr => first | (go_simp; done) | (go_simp; rfl)); intro gb1310 hg w23 hbox hb; have BK1310 := Aside0.mk (hbox); have GW1310 := geS hg; have GE1310 := geS hg; have NB1296_1310 := neS gb1296 hg; have NB1310_1296 := neT gb1296 hg; replace BK1296 := kb gb1296 hb; replace HO_5 := rb HO_5 hb; replace HO1305 := rb HO1305 hb; replace HB := bst hb; clear hb hbox hg; have := NB1310_1296.out; have := NB1296_1310.out; obtain ⟨_, _, _, _, _, _⟩ := cells3 BK1310.out; obtain ⟨Ao26, co26, eo26⟩ := Kd.R_slice HO_5.out; subst eo26))
     have n0_ : Aside0 (Kd.R k166 166 (((w23.setCell ⟨gb1310, 0, none⟩ (.int .i64 t1306)).setCell ⟨gb1310, 1, none⟩ (.int .i64 t1307)).setCell ⟨gb1310, 2, none⟩ (.string t1308)) w.heap.size (fun _ => True) (.slice Ao26 t1298.length co26) t1298) := ⟨by (with_reducible repeat (first | apply Kd.R_alloc | apply Kd.R_drewN | apply Kd.R_drew)); exact Kd.R_mono (Kd.R_far (p := ⟨gb1310, 2, none⟩) (Kd.R_far (p := ⟨gb1310, 1, none⟩) (Kd.R_far (p := ⟨gb1310, 0, none⟩) (Kd.R_types HO_5.out BK1310.out (by decide)) (fun _ hk => hk.2) (.int .i64 t1306)) (fun _ hk => hk.2) (.int .i64 t1307)) (fun _ hk => hk.2) (.string t1308)) (fun _ hk => trivial)⟩; have n1_ : Aside0 (Kd.R k156 156 (((w23.setCell ⟨gb1310, 0, none⟩ (.int .i64 t1306)).setCell ⟨gb1310, 1, none⟩ (.int .i64 t1307)).setCell ⟨gb1310, 2, none⟩ (.string t1308)) w.heap.size (fun _ => True) (.slice Ao21 t1302.length co21) t1302) := ⟨by (with_reducible repeat (first | apply Kd.R_alloc | apply Kd.R_drewN | apply Kd.R_drew)); exact Kd.R_mono (Kd.R_far (p := ⟨gb1310, 2, none⟩) (Kd.R_far (p := ⟨gb1310, 1, none⟩) (Kd.R_far (p := ⟨gb1310, 0, none⟩) (Kd.R_types HO1305.out BK1310.out (by decide)) (fun _ hk => hk.2) (.int .i64 t1306)) (fun _ hk => hk.2) (.int .i64 t1307)) (fun _ hk => hk.2) (.string t1308)) (fun _ hk => trivial)⟩
     have n2_ : Aside0 ((((w23.setCell ⟨gb1310, 0, none⟩ (.int .i64 t1306)).setCell ⟨gb1310, 1, none⟩ (.int .i64 t1307)).setCell ⟨gb1310, 2, none⟩ (.string t1308)).heap[gb1296]? = some (.cells #[.slice A1_0 l1_0.length c1_0, .slice A1_1 l1_1.length c1_1] 98 (0, 0))) := ⟨qK⟩; have n3_ : Aside0 ((((w23.setCell ⟨gb1310, 0, none⟩ (.int .i64 t1306)).setCell ⟨gb1310, 1, none⟩ (.int .i64 t1307)).setCell ⟨gb1310, 2, none⟩ (.string t1308)).heap[gb1310]? = some (.cells #[.int .i64 t1306, .int .i64 t1307, .string t1308] 103 (0, 0))) := ⟨qP⟩; have n4_ : Aside0 (Below w.heap.size w (((w23.setCell ⟨gb1310, 0, none⟩ (.int .i64 t1306)).setCell ⟨gb1310, 1, none⟩ (.int .i64 t1307)).setCell ⟨gb1310, 2, none⟩ (.string t1308))) := ⟨qB⟩; (try clear HO_5); (try clear HO1305); (try clear BK1296); (try clear BK1310); (try clear HB)
     generalize (((w23.setCell ⟨gb1310, 0, none⟩ (.int .i64 t1306)).setCell ⟨gb1310, 1, none⟩ (.int .i64 t1307)).setCell ⟨gb1310, 2, none⟩ (.string t1308)) = w27 at n0_ n1_ n2_ n3_ n4_ ⊢
     have HO_5 := n0_; have HO1305 := n1_; have BK1296 := n2_; have BK1310 := n3_; have HB := n4_; clear n0_ n1_ n2_ n3_ n4_; replace BK1296 := Aside0.mk (blk_drew BK1296.out); replace BK1310 := Aside0.mk (blk_drew BK1310.out); replace HO_5 := Aside0.mk (Kd.R_drew HO_5.out); replace HO1305 := Aside0.mk (Kd.R_drew HO1305.out); replace HB := Aside0.mk (below_drew1 HB.out); refine start_ (n := 15) (S := fun w' => w'.cell? ⟨gb1296, 0, none⟩ = some (.slice A1_0 l1_0.length c1_0) ∧ w'.cell? ⟨gb1296, 1, none⟩ = some (.slice A1_1 l1_1.length c1_1)) (ds := []) _ (by kernel_rfl) rfl (fls 15) ⟨(blk_cell BK1296.out 0).trans rfl, (blk_cell BK1296.out 1).trans rfl⟩ (fun hHeld => ?_); refine with_tabW whirligiglaw05_EvalComes.tab10 whirligiglaw05_EvalComes.bits10 (fun HT_ HW_ => ?_)
     generalize w27.drew = w28 at HO_5 HO1305 BK1296 BK1310 HB hHeld ⊢
     refine pu 0 43 ?_; refine pu 2 45 ?_; refine pu 3 46 ?_; refine pu 4 47 ?_; refine pu 5 48 ?_; refine pu 6 49 ?_; refine tk 7 50 ?_; refine join_ (σ := Value × Nat) 2 #[true, true, true, true, true, true, true, true, true, true, true, true, true, false, false] (fun s_ => [(44, s_.1), (51, .tuple #[.agg #[.int .i64 t1314, .int .i64 t1315, .string t1316], .int .i64 t1317]), (11, .pointer (some ⟨s_.2, 0, none⟩)), (42, .tuple #[.agg #[.int .i64 t1314, .int .i64 t1315, .string t1316], .int .i64 t1317]), (52, .agg #[.int .i64 t1314, .int .i64 t1315, .string t1316]), (53, .int .i64 t1317)]) (fun s_ w' => (w'.cell? ⟨gb1296, 0, none⟩ = some (.slice A1_0 l1_0.length c1_0) ∧ w'.cell? ⟨gb1296, 1, none⟩ = some (.slice A1_1 l1_1.length c1_1)) ∧ (Kd.R k156 156 w' w.heap.size (fun _ => True) (.slice Ao21 t1302.length co21) t1302) ∧ (Kd.R k159 159 w' w.heap.size (fun _ => True) s_.1 t1311) ∧ (Kd.R k166 166 w' w.heap.size (fun _ => True) (.slice Ao26 t1298.length co26) t1298) ∧ (w'.heap[gb1296]? = some (.cells #[.slice A1_0 l1_0.length c1_0, .slice A1_1 l1_1.length c1_1] 98 (0, 0))) ∧ (w'.heap[gb1310]? = some (.cells #[.int .i64 t1306, .int .i64 t1307, .string t1308] 103 (0, 0))) ∧ (w'.heap[s_.2]? = some (.cells #[.int .i64 0, .int .i64 0, .string (⟨#[]⟩ : ByteArray)] 106 (0, 0))) ∧ (w.heap.size ≤ s_.2) ∧ (w.heap.size ≤ s_.2) ∧ (gb1296 ≠ s_.2) ∧ (s_.2 ≠ gb1296) ∧ (gb1310 ≠ s_.2) ∧ (s_.2 ≠ gb1310) ∧ (Below w.heap.size w w')) ?_ ?_; rotate_left
     ·intro hCont; refine two_ (i := 1) (j := 12) (Ni := some 44) (Nj := some 11) #[true, true, true, true, true, true, true, true, false, false, false, false, false, false, false] #[true, false, true, true, true, true, true, true, false, false, false, false, true, false, false] rfl rfl rfl rfl (two_of HT_.out (by kernel_rfl)) (by decide) (by decide) (fun K hK => ?_) (fun K hK => ?_)
      ·skip; refine goes_ Tryd.func63 (by kernel_rfl) rfl #[.slice Ao21 t1302.length co21] (by rfl) rfl rfl (by (try simp only [List.map_toArray, List.map_cons, List.map_nil]); first | done | rfl | (simp only [List.length_drop, List.length_take]; rfl)) ?_
       with_reducible refine (whirligiglaw05_refs.calls kj5 _ _ t1302 t1311 _ ?side1 ?side2 A16.out).mono ?_
       (case side1 => exact cr HO1305); (case side2 => exact (Kd.R_reads' HO1305.out).2.1); rintro e w29 ⟨v1312, rfl, ho0, hb⟩; refine ⟨_, rfl, ?_⟩; have HO1313 := Aside0.mk (Kd.R_lower ho0 (below_size qB)); replace BK1296 := kb gb1296 hb; replace BK1310 := kb gb1310 hb; replace HO_5 := rb HO_5 hb; replace HO1305 := rb HO1305 hb; replace HB := bst hb; (try clear hb); (try clear hb2); (try clear hk); (try clear hi); (try clear ho0); obtain ⟨Ao30, co30, eo30⟩ := Kd.R_slice HO1313.out; (first | subst eo30 | (injection eo30 with f1_ f2_ f3_; have f4_ := f1_.symm; have f5_ := f3_.symm; clear f1_ f2_ f3_; subst f4_; subst f5_)); refine hK.out _ _ ⟨(blk_cell BK1296.out 0).trans rfl, (blk_cell BK1296.out 1).trans rfl⟩ (fun hHeld => ?_); clear hK K; refine nm 44 ?_; refine two_ (i := 8) (j := 12) (Ni := some 51) (Nj := some 11) #[true, true, true, true, true, true, true, true, true, false, false, false, false, false, false] #[true, true, true, true, true, true, true, true, false, false, false, false, true, false, false] rfl rfl rfl rfl (two_of HT_.out (by kernel_rfl)) (by decide) (by decide) (fun K hK => ?_) (fun K hK => ?_)
       ·skip; refine goes_ Tryd.func62 (by kernel_rfl) rfl #[.slice Ao30 t1311.length co30, .int .i64 (wrap64 ((t1302.length : Int) - 1)), .slice Ao26 t1298.length co26, .slice A1_1 l1_1.length c1_1] (by rfl) rfl rfl (by (try simp only [List.map_toArray, List.map_cons, List.map_nil]); first | done | rfl | (simp only [List.length_drop, List.length_take]; rfl)) ?_
        with_reducible refine (whirligigref05_Eval.calls kj5 _ _ t1311 (wrap64 ((t1302.length : Int) - 1)) _ _ t1298 _ _ l1_1 t1314 t1315 t1316 t1317 _ ?side1 ?side2 ?side3 ?side4 ?side5 ?side6 A17.out).mono ?_
        (case side1 => exact cr HO1313); (case side2 => exact (Kd.R_reads' HO1313.out).2.1); (case side3 => exact cr HO_5); (case side4 => exact (Kd.R_reads' HO_5.out).2.1); (case side5 => exact qC); (case side6 => exact HC1_1.out); rintro e w31 ⟨rfl, hb⟩; refine ⟨_, rfl, ?_⟩; replace BK1296 := kb gb1296 hb; replace BK1310 := kb gb1310 hb; replace HO_5 := rb HO_5 hb; replace HO1305 := rb HO1305 hb; replace HO1313 := rb HO1313 hb; replace HB := bst hb; (try clear hb); (try clear hb2); (try clear hk); (try clear hi); refine hK.out _ _ ⟨(blk_cell BK1296.out 0).trans rfl, (blk_cell BK1296.out 1).trans rfl⟩ (fun hHeld => ?_); clear hK K; refine nm 51 ?_; refine pu 9 42 ?_; refine pu 10 52 ?_; refine pu 11 53 ?_; refine onx 12 11 (fun K hK => ?_); refine box_step ?hg (N := 11) ?hd (cs := #[.int .i64 0, .int .i64 0, .string (⟨#[]⟩ : ByteArray)]) (t := 106) ?hr ?_; (case hd => rfl); (case hg => rfl); (case hr => first | (go_simp; done) | (go_simp; rfl)); intro gb1318 hg w32 hbox hb; have BK1318 := Aside0.mk (hbox); have GW1318 := geS hg; have GE1318 := geS hg; have NB1296_1318 := neS gb1296 hg; have NB1318_1296 := neT gb1296 hg; have NB1310_1318 := neS gb1310 hg; have NB1318_1310 := neT gb1310 hg; replace BK1296 := kb gb1296 hb; replace BK1310 := kb gb1310 hb; replace HO_5 := rb HO_5 hb; replace HO1305 := rb HO1305 hb; replace HO1313 := rb HO1313 hb; replace HB := bst hb; clear hb hbox hg
        refine hK.out _ _ ⟨(blk_cell BK1296.out 0).trans rfl, (blk_cell BK1296.out 1).trans rfl⟩ (fun hHeld => ?_); clear hK K; refine nm 11 ?_; exact norm_ (by simp only [putAll, Act.put, List.setIfInBounds_toArray, List.set_cons_zero, List.set_cons_succ]) (hCont (.slice Ao30 t1311.length co30, gb1318) _ ⟨hHeld, (by (with_reducible repeat (first | apply Kd.R_alloc | apply Kd.R_drewN | apply Kd.R_drew)); exact HO1305.out), (by (with_reducible repeat (first | apply Kd.R_alloc | apply Kd.R_drewN | apply Kd.R_drew)); exact HO1313.out), (by (with_reducible repeat (first | apply Kd.R_alloc | apply Kd.R_drewN | apply Kd.R_drew)); exact HO_5.out), qK, qK, qK, GW1318.out, GE1318.out, NB1296_1318.out, NB1318_1296.out, NB1310_1318.out, NB1318_1310.out, qB⟩)
       skip; refine box_step ?hg (N := 11) ?hd (cs := #[.int .i64 0, .int .i64 0, .string (⟨#[]⟩ : ByteArray)]) (t := 106) ?hr ?_; (case hd => rfl); (case hg => rfl); (case hr => first | (go_simp; done) | (go_simp; rfl)); intro gb1318 hg w30 hbox hb; have BK1318 := Aside0.mk (hbox); have GW1318 := geS hg; have GE1318 := geS hg; have NB1296_1318 := neS gb1296 hg; have NB1318_1296 := neT gb1296 hg; have NB1310_1318 := neS gb1310 hg; have NB1318_1310 := neT gb1310 hg; replace BK1296 := kb gb1296 hb; replace BK1310 := kb gb1310 hb; replace HO_5 := rb HO_5 hb; replace HO1305 := rb HO1305 hb; replace HO1313 := rb HO1313 hb; replace HB := bst hb; clear hb hbox hg; obtain ⟨Ao31, co31, eo31⟩ := Kd.R_slice HO1313.out; (first | subst eo31 | (injection eo31 with f1_ f2_ f3_; have f4_ := f1_.symm; have f5_ := f3_.symm; clear f1_ f2_ f3_; subst f4_; subst f5_)); refine hK.out _ _ ⟨(blk_cell BK1296.out 0).trans rfl, (blk_cell BK1296.out 1).trans rfl⟩ (fun hHeld => ?_); clear hK K; refine nm 11 ?_; refine onx 8 51 (fun K hK => ?_); refine goes_ Tryd.func62 (by kernel_rfl) rfl #[.slice Ao31 t1311.length co31, .int .i64 (wrap64 ((t1302.length : Int) - 1)), .slice Ao26 t1298.length co26, .slice A1_1 l1_1.length c1_1] (by rfl) rfl rfl (by (try simp only [List.map_toArray, List.map_cons, List.map_nil]); first | done | rfl | (simp only [List.length_drop, List.length_take]; rfl)) ?_
       with_reducible refine (whirligigref05_Eval.calls kj5 _ _ t1311 (wrap64 ((t1302.length : Int) - 1)) _ _ t1298 _ _ l1_1 t1314 t1315 t1316 t1317 _ ?side1 ?side2 ?side3 ?side4 ?side5 ?side6 A17.out).mono ?_
       (case side1 => exact cr HO1313); (case side2 => exact (Kd.R_reads' HO1313.out).2.1); (case side3 => exact cr HO_5); (case side4 => exact (Kd.R_reads' HO_5.out).2.1); (case side5 => exact qC); (case side6 => exact HC1_1.out); rintro e w32 ⟨rfl, hb⟩; refine ⟨_, rfl, ?_⟩; replace BK1296 := kb gb1296 hb; replace BK1310 := kb gb1310 hb; replace BK1318 := kb gb1318 hb; replace HO_5 := rb HO_5 hb; replace HO1305 := rb HO1305 hb; replace HO1313 := rb HO1313 hb; replace HB := bst hb; (try clear hb); (try clear hb2); (try clear hk); (try clear hi); refine hK.out _ _ ⟨(blk_cell BK1296.out 0).trans rfl, (blk_cell BK1296.out 1).trans rfl⟩ (fun hHeld => ?_); clear hK K; refine nm 51 ?_; refine pu 9 42 ?_; refine pu 10 52 ?_; refine pu 11 53 ?_; exact norm_ (by simp only [putAll, Act.put, List.setIfInBounds_toArray, List.set_cons_zero, List.set_cons_succ]) (hCont (.slice Ao31 t1311.length co31, gb1318) _ ⟨hHeld, (by (with_reducible repeat (first | apply Kd.R_alloc | apply Kd.R_drewN | apply Kd.R_drew)); exact HO1305.out), (by (with_reducible repeat (first | apply Kd.R_alloc | apply Kd.R_drewN | apply Kd.R_drew)); exact HO1313.out), (by (with_reducible repeat (first | apply Kd.R_alloc | apply Kd.R_drewN | apply Kd.R_drew)); exact HO_5.out), qK, qK, qK, GW1318.out, GE1318.out, NB1296_1318.out, NB1318_1296.out, NB1310_1318.out, NB1318_1310.out, qB⟩)
      skip; refine box_step ?hg (N := 11) ?hd (cs := #[.int .i64 0, .int .i64 0, .string (⟨#[]⟩ : ByteArray)]) (t := 106) ?hr ?_; (case hd => rfl); (case hg => rfl); (case hr => first | (go_simp; done) | (go_simp; rfl)); intro gb1318 hg w29 hbox hb; have BK1318 := Aside0.mk (hbox); have GW1318 := geS hg; have GE1318 := geS hg; have NB1296_1318 := neS gb1296 hg; have NB1318_1296 := neT gb1296 hg; have NB1310_1318 := neS gb1310 hg; have NB1318_1310 := neT gb1310 hg; replace BK1296 := kb gb1296 hb; replace BK1310 := kb gb1310 hb; replace HO_5 := rb HO_5 hb; replace HO1305 := rb HO1305 hb; replace HB := bst hb; clear hb hbox hg; refine hK.out _ _ ⟨(blk_cell BK1296.out 0).trans rfl, (blk_cell BK1296.out 1).trans rfl⟩ (fun hHeld => ?_); clear hK K; refine nm 11 ?_; refine onx 1 44 (fun K hK => ?_); refine goes_ Tryd.func63 (by kernel_rfl) rfl #[.slice Ao21 t1302.length co21] (by rfl) rfl rfl (by (try simp only [List.map_toArray, List.map_cons, List.map_nil]); first | done | rfl | (simp only [List.length_drop, List.length_take]; rfl)) ?_
      with_reducible refine (whirligiglaw05_refs.calls kj5 _ _ t1302 t1311 _ ?side1 ?side2 A16.out).mono ?_
      (case side1 => exact cr HO1305); (case side2 => exact (Kd.R_reads' HO1305.out).2.1); rintro e w30 ⟨v1312, rfl, ho0, hb⟩; refine ⟨_, rfl, ?_⟩; have HO1313 := Aside0.mk (Kd.R_lower ho0 (below_size qB)); replace BK1296 := kb gb1296 hb; replace BK1310 := kb gb1310 hb; replace BK1318 := kb gb1318 hb; replace HO_5 := rb HO_5 hb; replace HO1305 := rb HO1305 hb; replace HB := bst hb; (try clear hb); (try clear hb2); (try clear hk); (try clear hi); (try clear ho0); obtain ⟨Ao31, co31, eo31⟩ := Kd.R_slice HO1313.out; (first | subst eo31 | (injection eo31 with f1_ f2_ f3_; have f4_ := f1_.symm; have f5_ := f3_.symm; clear f1_ f2_ f3_; subst f4_; subst f5_)); refine hK.out _ _ ⟨(blk_cell BK1296.out 0).trans rfl, (blk_cell BK1296.out 1).trans rfl⟩ (fun hHeld => ?_); clear hK K; refine nm 44 ?_; refine onx 8 51 (fun K hK => ?_); refine goes_ Tryd.func62 (by kernel_rfl) rfl #[.slice Ao31 t1311.length co31, .int .i64 (wrap64 ((t1302.length : Int) - 1)), .slice Ao26 t1298.length co26, .slice A1_1 l1_1.length c1_1] (by rfl) rfl rfl (by (try simp only [List.map_toArray, List.map_cons, List.map_nil]); first | done | rfl | (simp only [List.length_drop, List.length_take]; rfl)) ?_
      with_reducible refine (whirligigref05_Eval.calls kj5 _ _ t1311 (wrap64 ((t1302.length : Int) - 1)) _ _ t1298 _ _ l1_1 t1314 t1315 t1316 t1317 _ ?side1 ?side2 ?side3 ?side4 ?side5 ?side6 A17.out).mono ?_
      (case side1 => exact cr HO1313); (case side2 => exact (Kd.R_reads' HO1313.out).2.1); (case side3 => exact cr HO_5); (case side4 => exact (Kd.R_reads' HO_5.out).2.1); (case side5 => exact qC); (case side6 => exact HC1_1.out); rintro e w32 ⟨rfl, hb⟩; refine ⟨_, rfl, ?_⟩; replace BK1296 := kb gb1296 hb; replace BK1310 := kb gb1310 hb; replace BK1318 := kb gb1318 hb; replace HO_5 := rb HO_5 hb; replace HO1305 := rb HO1305 hb; replace HO1313 := rb HO1313 hb; replace HB := bst hb; (try clear hb); (try clear hb2); (try clear hk); (try clear hi); refine hK.out _ _ ⟨(blk_cell BK1296.out 0).trans rfl, (blk_cell BK1296.out 1).trans rfl⟩ (fun hHeld => ?_); clear hK K; refine nm 51 ?_; refine pu 9 42 ?_; refine pu 10 52 ?_; refine pu 11 53 ?_; exact norm_ (by simp only [putAll, Act.put, List.setIfInBounds_toArray, List.set_cons_zero, List.set_cons_succ]) (hCont (.slice Ao31 t1311.length co31, gb1318) _ ⟨hHeld, (by (with_reducible repeat (first | apply Kd.R_alloc | apply Kd.R_drewN | apply Kd.R_drew)); exact HO1305.out), (by (with_reducible repeat (first | apply Kd.R_alloc | apply Kd.R_drewN | apply Kd.R_drew)); exact HO1313.out), (by (with_reducible repeat (first | apply Kd.R_alloc | apply Kd.R_drewN | apply Kd.R_drew)); exact HO_5.out), qK, qK, qK, GW1318.out, GE1318.out, NB1296_1318.out, NB1318_1296.out, NB1310_1318.out, NB1318_1310.out, qB⟩)
     rintro ⟨v1312, gb1318⟩ w33 ⟨hS_, h0_, h1_, h2_, h3_, h4_, h5_, h6_, h7_, h8_, h9_, h10_, h11_, h12_⟩; have n0_ : Aside0 (Kd.R k156 156 w33 w.heap.size (fun _ => True) (.slice Ao21 t1302.length co21) t1302) := ⟨h0_⟩; have n1_ : Aside0 (Kd.R k159 159 w33 w.heap.size (fun _ => True) v1312 t1311) := ⟨h1_⟩; have n2_ : Aside0 (Kd.R k166 166 w33 w.heap.size (fun _ => True) (.slice Ao26 t1298.length co26) t1298) := ⟨h2_⟩; have n3_ : Aside0 (w33.heap[gb1296]? = some (.cells #[.slice A1_0 l1_0.length c1_0, .slice A1_1 l1_1.length c1_1] 98 (0, 0))) := ⟨h3_⟩; have n4_ : Aside0 (w33.heap[gb1310]? = some (.cells #[.int .i64 t1306, .int .i64 t1307, .string t1308] 103 (0, 0))) := ⟨h4_⟩; have n5_ : Aside0 (w33.heap[gb1318]? = some (.cells #[.int .i64 0, .int .i64 0, .string (⟨#[]⟩ : ByteArray)] 106 (0, 0))) := ⟨h5_⟩; have n6_ : Aside0 (w.heap.size ≤ gb1318) := ⟨h6_⟩; have n7_ : Aside0 (w.heap.size ≤ gb1318) := ⟨h7_⟩; have n8_ : Aside0 (gb1296 ≠ gb1318) := ⟨h8_⟩; have n9_ : Aside0 (gb1318 ≠ gb1296) := ⟨h9_⟩; have n10_ : Aside0 (gb1310 ≠ gb1318) := ⟨h10_⟩; have n11_ : Aside0 (gb1318 ≠ gb1310) := ⟨h11_⟩; have n12_ : Aside0 (Below w.heap.size w w33) := ⟨h12_⟩; clear HO_5; clear HO1305; clear BK1296; clear BK1310; clear HB; clear h0_ h1_ h2_ h3_ h4_ h5_ h6_ h7_ h8_ h9_ h10_ h11_ h12_; have HO1305 := n0_; have HO1313 := n1_; have HO_5 := n2_; have BK1296 := n3_; have BK1310 := n4_; have BK1318 := n5_; have GW1318 := n6_; have GE1318 := n7_; have NB1296_1318 := n8_; have NB1318_1296 := n9_
     have NB1310_1318 := n10_; have NB1318_1310 := n11_; have HB := n12_; clear n0_ n1_ n2_ n3_ n4_ n5_ n6_ n7_ n8_ n9_ n10_ n11_ n12_; have hHeld : w33.cell? ⟨gb1296, 0, none⟩ = some (.slice A1_0 l1_0.length c1_0) ∧ w33.cell? ⟨gb1296, 1, none⟩ = some (.slice A1_1 l1_1.length c1_1) := hS_; refine norm_ (a' := ?_) ?_ ?_; rotate_left
     ·simp only [putAll, Act.put, List.setIfInBounds_toArray, List.set_cons_zero, List.set_cons_succ]
      rfl
     refine one_ (i := 13) (N := none) #[true, true, true, true, true, true, true, true, true, true, true, true, true, true, false] rfl rfl (one_of HT_.out (by kernel_rfl)) (by decide) (fun K hK => ?_); have hs34 : w33.cell? ⟨gb1318, 0, none⟩ = some (.int .i64 0) := (blk_cell BK1318.out 0).trans rfl; have hfs34 := blk_frozen BK1318.out 0; have hns34_0 := NB1296_1318.out; have hns34_1 := NB1310_1318.out; have hms34_0 := NB1318_1296.out; have hms34_1 := NB1318_1310.out; have hs35 : w33.cell? ⟨gb1318, 1, none⟩ = some (.int .i64 0) := (blk_cell BK1318.out 1).trans rfl; have hfs35 := blk_frozen BK1318.out 1; have hns35_0 := NB1296_1318.out; have hns35_1 := NB1310_1318.out; have hms35_0 := NB1318_1296.out; have hms35_1 := NB1318_1310.out; have hs36 : w33.cell? ⟨gb1318, 2, none⟩ = some (.string (⟨#[]⟩ : ByteArray)) := (blk_cell BK1318.out 2).trans rfl; have hfs36 := blk_frozen BK1318.out 2; have hns36_0 := NB1296_1318.out; have hns36_1 := NB1310_1318.out; have hms36_0 := NB1318_1296.out; have hms36_1 := NB1318_1310.out; refine skip_ (w1 := ?_) (by rfl) rfl ?_ ?_; rotate_left
     ·go_simp
      rfl
     refine hK.out _ _ ⟨((cell_far (p := ⟨gb1318, _, none⟩) NB1296_1318.out _).trans (((cell_far (p := ⟨gb1318, _, none⟩) NB1296_1318.out _).trans (((cell_far (p := ⟨gb1318, _, none⟩) NB1296_1318.out _).trans (hHeld.1)))))), ((cell_far (p := ⟨gb1318, _, none⟩) NB1296_1318.out _).trans (((cell_far (p := ⟨gb1318, _, none⟩) NB1296_1318.out _).trans (((cell_far (p := ⟨gb1318, _, none⟩) NB1296_1318.out _).trans (hHeld.2))))))⟩ (fun hHeld => ?_); clear hK K; refine pu 14 12 ?_; refine done_ (done_of HT_.out (by kernel_rfl)) ?_
     go_upto_region 11 with (fail)
     go_cut [61] (fun v61 wc => ∃ (kq : Nat) (x61_17 : Bool), v61 = .bool x61_17 ∧ Aside0 (whirligiglaw05_EvalComes.j1 kq t1302 t1317 x61_17 l1_0 l1_1 t1314 t1315 t1316 = some r) ∧ Aside0 (kq ≤ kj5) ∧ Aside0 (Kd.R k156 156 wc w.heap.size (fun _ => True) (.slice Ao21 t1302.length co21) t1302) ∧ Aside0 (wc.heap[gb1296]? = some (.cells #[(.slice A1_0 l1_0.length c1_0), (.slice A1_1 l1_1.length c1_1)] 98 (0, 0))) ∧ Aside0 (wc.heap[gb1310]? = some (.cells #[.int .i64 t1306, .int .i64 t1307, .string t1308] 103 (0, 0))) ∧ Aside0 (wc.heap[gb1318]? = some (.cells #[.int .i64 t1314, .int .i64 t1315, .string t1316] 106 (0, 0))) ∧ Aside0 (Below w.heap.size w wc))
     case first =>
      have H := HC18.out; clear HC18
      by_cases c37 : t1309 = t1317
      ·rw [if_pos c37] at H; have c37b0 := beq_iff_eq.mpr c37; have c37b1 := bne_eq_false_iff_eq.mpr c37; clear c37; (first | rw [c37b0] | (simp only [i64_w, i32_w]; rw [c37b0]) | skip); have H' := Aside0.mk H; clear H; have := NB1310_1296.out; have := NB1296_1310.out; have := NB1310_1318.out; have := NB1318_1310.out; obtain ⟨_, _, _, _, _, _⟩ := cells3 BK1310.out; have := NB1318_1296.out; have := NB1296_1318.out; obtain ⟨_, _, _, _, _, _⟩ := cells3 BK1318.out
       go_wp2
       go_meet
       case rel => exact ⟨_, ((!(t1306 == t1314) || (!(t1307 == t1315) || (!(t1308.toList == t1316.toList))))), qE, H', ⟨by have := HJ5.out; first | omega | exact Nat.le_refl _⟩, ⟨by (with_reducible repeat (first | apply Kd.R_alloc | apply Kd.R_drewN | apply Kd.R_drew)); exact Kd.R_mono (Kd.R_far (p := ⟨gb1318, 2, none⟩) (Kd.R_far (p := ⟨gb1318, 1, none⟩) (Kd.R_far (p := ⟨gb1318, 0, none⟩) (Kd.R_types HO1305.out BK1318.out (by decide)) (fun _ hk => hk.2) (.int .i64 t1314)) (fun _ hk => hk.2) (.int .i64 t1315)) (fun _ hk => hk.2) (.string t1316)) (fun _ hk => trivial)⟩, ⟨qK⟩, ⟨qK⟩, ⟨qP⟩, ⟨qB⟩⟩
      rw [if_neg c37] at H; have c37b0 := beq_eq_false_iff_ne.mpr c37; have c37b1 := bne_iff_ne.mpr c37; (first | rw [c37b0] | (simp only [i64_w, i32_w]; rw [c37b0]) | skip); have H' := Aside0.mk H; clear H
      go_wp2
      go_meet
      case rel => exact ⟨_, (true), qE, H', ⟨by have := HJ5.out; first | omega | exact Nat.le_refl _⟩, ⟨by (with_reducible repeat (first | apply Kd.R_alloc | apply Kd.R_drewN | apply Kd.R_drew)); exact Kd.R_mono (Kd.R_far (p := ⟨gb1318, 2, none⟩) (Kd.R_far (p := ⟨gb1318, 1, none⟩) (Kd.R_far (p := ⟨gb1318, 0, none⟩) (Kd.R_types HO1305.out BK1318.out (by decide)) (fun _ hk => hk.2) (.int .i64 t1314)) (fun _ hk => hk.2) (.int .i64 t1315)) (fun _ hk => hk.2) (.string t1316)) (fun _ hk => trivial)⟩, ⟨qK⟩, ⟨qK⟩, ⟨qP⟩, ⟨qB⟩⟩
     case rest =>
      clear HC18
      try clear p2
      try clear p6
      obtain ⟨kq, x61_17, rfl, HA, HJ17, HO_7, BK1296, BK1310, BK1318, HB⟩ := hcut; cases kq with
      | zero => exact absurd HA.out (by simp [whirligiglaw05_EvalComes.j1])
      | succ kj17 =>
       have H := HA.out; clear HA; simp only [whirligiglaw05_EvalComes.j1] at H
       by_cases c43 : x61_17 = true
       ·subst c43; rw [if_pos rfl] at H; obtain rfl := Option.some.inj H
        go_wp2
        go_ret; exact ⟨qR, qB⟩
       replace c43 := Bool.eq_false_iff.mpr c43; subst c43; rw [if_neg (show ¬ (false = true) by decide)] at H; replace H := Option.bind_eq_some_iff.mp H; obtain ⟨⟨t1319, t1320⟩, A440, H⟩ := H; (try dsimp -simprocs only at H); have A44 := Aside0.mk A440; clear A440
       by_cases c45 : t1317 = 0
       ·rw [if_pos c45] at H; have c45b0 := beq_iff_eq.mpr c45; have c45b1 := bne_eq_false_iff_eq.mpr c45; clear c45
        by_cases c46 : t1314 = 2
        ·rw [if_pos c46] at H; have c46b0 := beq_iff_eq.mpr c46; have c46b1 := bne_eq_false_iff_eq.mpr c46; clear c46
         by_cases c47 : t1320 = 0
         ·rw [if_pos c47] at H; have c47b0 := beq_iff_eq.mpr c47; have c47b1 := bne_eq_false_iff_eq.mpr c47; clear c47; obtain rfl := Option.some.inj H; have := NB1296_1310.out; have := NB1310_1296.out; have := NB1296_1318.out; have := NB1318_1296.out; obtain ⟨_, _, _, _⟩ := cells2 BK1296.out
          go_wp2_with (first | ((with_reducible refine gc 64 rfl ?_); refine gl (some 65) #[.slice Ao21 t1302.length co21, .agg #[.slice A1_0 l1_0.length c1_0, .slice A1_1 l1_1.length c1_1]] Tryd.func64 ?_; (with_reducible refine (eval_Holds.calls kj17 _ _ t1302 _ _ l1_0 _ _ l1_1 t1319 t1320 _ ?side1 ?side2 ?side3 ?side4 ?side5 ?side6 ?side7 A44.out).mono ?_); (case side1 => exact cr HO_7); (case side2 => exact (Kd.R_reads' HO_7.out).2.1); (case side3 => exact qC); (case side4 => exact HC1_0.out); (case side5 => exact qC); (case side6 => exact HC1_1.out); (case side7 => exact Laid.below HLD.out qB); rintro e w51 ⟨rfl, hb⟩; refine ⟨_, rfl, ?_⟩; replace BK1296 := kb gb1296 hb; replace BK1310 := kb gb1310 hb; replace BK1318 := kb gb1318 hb; replace HO_7 := rb HO_7 hb; replace HB := bst hb; (try clear hb); have := NB1318_1310.out; have := NB1310_1318.out; obtain ⟨_, _, _, _, _, _⟩ := cells3 BK1318.out))
          go_ret; exact ⟨qR, qB⟩
         rw [if_neg c47] at H; have c47b0 := beq_eq_false_iff_ne.mpr c47; have c47b1 := bne_iff_ne.mpr c47; obtain rfl := Option.some.inj H; have := NB1296_1310.out; have := NB1310_1296.out; have := NB1296_1318.out; have := NB1318_1296.out; obtain ⟨_, _, _, _⟩ := cells2 BK1296.out
         go_wp2_with (first | ((with_reducible refine gc 64 rfl ?_); refine gl (some 65) #[.slice Ao21 t1302.length co21, .agg #[.slice A1_0 l1_0.length c1_0, .slice A1_1 l1_1.length c1_1]] Tryd.func64 ?_; (with_reducible refine (eval_Holds.calls kj17 _ _ t1302 _ _ l1_0 _ _ l1_1 t1319 t1320 _ ?side1 ?side2 ?side3 ?side4 ?side5 ?side6 ?side7 A44.out).mono ?_); (case side1 => exact cr HO_7); (case side2 => exact (Kd.R_reads' HO_7.out).2.1); (case side3 => exact qC); (case side4 => exact HC1_0.out); (case side5 => exact qC); (case side6 => exact HC1_1.out); (case side7 => exact Laid.below HLD.out qB); rintro e w57 ⟨rfl, hb⟩; refine ⟨_, rfl, ?_⟩; replace BK1296 := kb gb1296 hb; replace BK1310 := kb gb1310 hb; replace BK1318 := kb gb1318 hb; replace HO_7 := rb HO_7 hb; replace HB := bst hb; (try clear hb); have := NB1318_1310.out; have := NB1310_1318.out; obtain ⟨_, _, _, _, _, _⟩ := cells3 BK1318.out))
         go_ret; exact ⟨qR, qB⟩
        rw [if_neg c46] at H; have c46b0 := beq_eq_false_iff_ne.mpr c46; have c46b1 := bne_iff_ne.mpr c46
        by_cases c60 : t1320 = 20
        ·rw [if_pos c60] at H; have c60b0 := beq_iff_eq.mpr c60; have c60b1 := bne_eq_false_iff_eq.mpr c60; clear c60; obtain rfl := Option.some.inj H; have := NB1296_1310.out; have := NB1310_1296.out; have := NB1296_1318.out; have := NB1318_1296.out; obtain ⟨_, _, _, _⟩ := cells2 BK1296.out
         go_wp2_with (first | ((with_reducible refine gc 64 rfl ?_); refine gl (some 65) #[.slice Ao21 t1302.length co21, .agg #[.slice A1_0 l1_0.length c1_0, .slice A1_1 l1_1.length c1_1]] Tryd.func64 ?_; (with_reducible refine (eval_Holds.calls kj17 _ _ t1302 _ _ l1_0 _ _ l1_1 t1319 t1320 _ ?side1 ?side2 ?side3 ?side4 ?side5 ?side6 ?side7 A44.out).mono ?_); (case side1 => exact cr HO_7); (case side2 => exact (Kd.R_reads' HO_7.out).2.1); (case side3 => exact qC); (case side4 => exact HC1_0.out); (case side5 => exact qC); (case side6 => exact HC1_1.out); (case side7 => exact Laid.below HLD.out qB); rintro e w64 ⟨rfl, hb⟩; refine ⟨_, rfl, ?_⟩; replace BK1296 := kb gb1296 hb; replace BK1310 := kb gb1310 hb; replace BK1318 := kb gb1318 hb; replace HO_7 := rb HO_7 hb; replace HB := bst hb; (try clear hb); have := NB1318_1310.out; have := NB1310_1318.out; obtain ⟨_, _, _, _, _, _⟩ := cells3 BK1318.out))
         go_ret; exact ⟨qR, qB⟩
        rw [if_neg c60] at H; have c60b0 := beq_eq_false_iff_ne.mpr c60; have c60b1 := bne_iff_ne.mpr c60; obtain rfl := Option.some.inj H; have := NB1296_1310.out; have := NB1310_1296.out; have := NB1296_1318.out; have := NB1318_1296.out; obtain ⟨_, _, _, _⟩ := cells2 BK1296.out
        go_wp2_with (first | ((with_reducible refine gc 64 rfl ?_); refine gl (some 65) #[.slice Ao21 t1302.length co21, .agg #[.slice A1_0 l1_0.length c1_0, .slice A1_1 l1_1.length c1_1]] Tryd.func64 ?_; (with_reducible refine (eval_Holds.calls kj17 _ _ t1302 _ _ l1_0 _ _ l1_1 t1319 t1320 _ ?side1 ?side2 ?side3 ?side4 ?side5 ?side6 ?side7 A44.out).mono ?_); (case side1 => exact cr HO_7); (case side2 => exact (Kd.R_reads' HO_7.out).2.1); (case side3 => exact qC); (case side4 => exact HC1_0.out); (case side5 => exact qC); (case side6 => exact HC1_1.out); (case side7 => exact Laid.below HLD.out qB); rintro e w70 ⟨rfl, hb⟩; refine ⟨_, rfl, ?_⟩; replace BK1296 := kb gb1296 hb; replace BK1310 := kb gb1310 hb; replace BK1318 := kb gb1318 hb; replace HO_7 := rb HO_7 hb; replace HB := bst hb; (try clear hb); have := NB1318_1310.out; have := NB1310_1318.out; obtain ⟨_, _, _, _, _, _⟩ := cells3 BK1318.out))
        go_ret; exact ⟨qR, qB⟩
       rw [if_neg c45] at H; have c45b0 := beq_eq_false_iff_ne.mpr c45; have c45b1 := bne_iff_ne.mpr c45
       by_cases c73 : t1320 = t1317
       ·rw [if_pos c73] at H; have c73b0 := beq_iff_eq.mpr c73; have c73b1 := bne_eq_false_iff_eq.mpr c73; clear c73; obtain rfl := Option.some.inj H; have := NB1296_1310.out; have := NB1310_1296.out; have := NB1296_1318.out; have := NB1318_1296.out; obtain ⟨_, _, _, _⟩ := cells2 BK1296.out
        go_wp2_with (first | ((with_reducible refine gc 64 rfl ?_); refine gl (some 65) #[.slice Ao21 t1302.length co21, .agg #[.slice A1_0 l1_0.length c1_0, .slice A1_1 l1_1.length c1_1]] Tryd.func64 ?_; (with_reducible refine (eval_Holds.calls kj17 _ _ t1302 _ _ l1_0 _ _ l1_1 t1319 t1320 _ ?side1 ?side2 ?side3 ?side4 ?side5 ?side6 ?side7 A44.out).mono ?_); (case side1 => exact cr HO_7); (case side2 => exact (Kd.R_reads' HO_7.out).2.1); (case side3 => exact qC); (case side4 => exact HC1_0.out); (case side5 => exact qC); (case side6 => exact HC1_1.out); (case side7 => exact Laid.below HLD.out qB); rintro e w77 ⟨rfl, hb⟩; refine ⟨_, rfl, ?_⟩; replace BK1296 := kb gb1296 hb; replace BK1310 := kb gb1310 hb; replace BK1318 := kb gb1318 hb; replace HO_7 := rb HO_7 hb; replace HB := bst hb; (try clear hb)))
        go_ret; exact ⟨qR, qB⟩
       rw [if_neg c73] at H; have c73b0 := beq_eq_false_iff_ne.mpr c73; have c73b1 := bne_iff_ne.mpr c73; obtain rfl := Option.some.inj H; have := NB1296_1310.out; have := NB1310_1296.out; have := NB1296_1318.out; have := NB1318_1296.out; obtain ⟨_, _, _, _⟩ := cells2 BK1296.out
       go_wp2_with (first | ((with_reducible refine gc 64 rfl ?_); refine gl (some 65) #[.slice Ao21 t1302.length co21, .agg #[.slice A1_0 l1_0.length c1_0, .slice A1_1 l1_1.length c1_1]] Tryd.func64 ?_; (with_reducible refine (eval_Holds.calls kj17 _ _ t1302 _ _ l1_0 _ _ l1_1 t1319 t1320 _ ?side1 ?side2 ?side3 ?side4 ?side5 ?side6 ?side7 A44.out).mono ?_); (case side1 => exact cr HO_7); (case side2 => exact (Kd.R_reads' HO_7.out).2.1); (case side3 => exact qC); (case side4 => exact HC1_0.out); (case side5 => exact qC); (case side6 => exact HC1_1.out); (case side7 => exact Laid.below HLD.out qB); rintro e w81 ⟨rfl, hb⟩; refine ⟨_, rfl, ?_⟩; replace BK1296 := kb gb1296 hb; replace BK1310 := kb gb1310 hb; replace BK1318 := kb gb1318 hb; replace HO_7 := rb HO_7 hb; replace HB := bst hb; (try clear hb)))
       go_ret; exact ⟨qR, qB⟩
    rw [if_neg c14] at H
    have c14b0 := beq_eq_false_iff_ne.mpr c14
    have c14b1 := bne_iff_ne.mpr c14
    obtain rfl := Option.some.inj H
    go_wp2_with (first | ((with_reducible refine gc 53 rfl ?_); refine gl (some 31) #[.string a0] Tryd.func53 ?_; (with_reducible refine (expr_Read.calls kj5 a0 t1302 t1303 _ ?side1 A13.out).mono ?_); (case side1 => exact Laid.below HLD.out qB); rintro e w82 ⟨v1304, rfl, ho0, hb⟩; refine ⟨_, rfl, ?_⟩; have HO1305 := Aside0.mk (Kd.R_lower ho0 (below_size qB)); replace BK1296 := kb gb1296 hb; replace HO_5 := rb HO_5 hb; replace HB := bst hb; (try clear hb); (try clear ho0)))
    go_ret
    exact ⟨qR, qB⟩
 replace c4 := Bool.eq_false_iff.mpr c4
 subst c4
 rw [if_neg (show ¬ (false = true) by decide)] at H
 obtain rfl := Option.some.inj H
 go_enter Tryd.func15, Tryd.ntmps15
 go_wp2_with (first | ((with_reducible refine gate_dst (N := 3) rfl ?_); (try (refine gate_guard (by rfl) ?_; dsimp only)); refine box_event ?hg (N := 3) ?hd (cs := #[.slice A1_0 l1_0.length c1_0, .slice A1_1 l1_1.length c1_1]) (t := 98) ?hr ?_; (case hd => rfl); (case hg => rfl); (case hr => first | (go_simp; done) | (go_simp; rfl)); intro gb1296 hg w83 hbox hb; have BK1296 := Aside0.mk (hbox); have GW1296 := geS hg; have GE1296 := geS hg; replace HB := bst hb; clear hb hbox hg) | ((with_reducible refine gc 59 rfl ?_); refine gl (some 15) #[] Tryd.func59 ?_; (with_reducible refine (whirligiglaw05_anchor.calls k  false _ ?side1 A3.out).mono ?_); (case side1 => exact Laid.below HLD.out qB); rintro e w84 ⟨rfl, hb⟩; refine ⟨_, rfl, ?_⟩; replace BK1296 := kb gb1296 hb; replace HB := bst hb; (try clear hb)))
 go_ret
 exact ⟨qR, qB⟩
end Go.Proofs.YtbngfhlciebeeaaDoor.L
end
section
namespace Go.Proofs.YtbngfhlciebeeaaDoor.Sp
set_option linter.unusedVariables false
set_option linter.unusedSimpArgs false
open Go.RowKit Go.Proofs.YtbngfhlciebeeaaDoorW.PrintWords Go.Proofs.YtbngfhlciebeeaaDoorW.PrintMore Go.Proofs.YtbngfhlciebeeaaDoor.L
theorem EvalComes_ev (s : ByteArray) (hs : s.size ≤ 140737488351232) (cs : List S116) (ss : List ByteArray) (hv : Opn.okCs cs ∧ Opn.okSs ss) : Ev (fun k => whirligiglaw05_EvalComes.f k s cs ss) true := by
  unfold whirligiglaw05_EvalComes.f
  refine Ev.bind anchor05_ev (Ev.pos rfl ?_)
  obtain ⟨⟨out, b⟩, hr, hb⟩ := cells05_is cs ss hv.1.1
  refine Ev.bind hr ?_
  have ht : ∀ o, Ev (fun k => whirligiglaw05_EvalComes.j0 k s o true cs ss) true := fun o => Ev.succ (by simp only [whirligiglaw05_EvalComes.j0]; exact Ev.pos trivial (Ev.some rfl))
  cases b with
  | false => exact Ev.neg (by simp) (ht _)
  | true =>
    obtain ⟨h1, h2, h3, h4⟩ := hb rfl
    replace h1 : out = cs.map c166 := h1
    subst h1
    refine Ev.pos rfl ?_
    by_cases g : (s.size : Int) > 600
    · rw [decide_eq_true g]; exact ht _
    rw [decide_eq_false g]
    refine Ev.succ ?_
    simp only [whirligiglaw05_EvalComes.j0]
    refine Ev.neg (by decide) ?_
    obtain ⟨⟨x, e⟩, hR, hG⟩ := Read_ev s hs
    refine Ev.bind hR ?_
    by_cases he : e = 0
    · have G : GoodE x := hG he
      have g0 := G.ne
      have g1 := G.le
      obtain ⟨v, err, hE, hn, _⟩ := Eval_ev (ss := ss) (st := []) G (by omega) (by omega) (by simp) (cells_both hv.1 h4)
      have hrf := refs05_ev x (by omega)
      refine Ev.pos he (Ev.bind hE (Ev.bind hrf (Ev.bind (a := (v.f0, v.f1, v.f2, err)) ?_ (Ev.pos rfl ?_))))
      · dsimp only
        rw [wrap_at (x := (x.length : Int) - 1) (by omega) (by omega), show (x.length : Int) - 1 = ((x.length - 1 : Nat) : Int) by omega]
        exact hn.doc
      · refine Ev.succ ?_
        simp only [whirligiglaw05_EvalComes.j1]
        refine Ev.neg (by simp) ?_
        by_cases ge : err = 0
        · subst ge
          have hH := Holds_ok hE
          obtain ⟨hv1, _⟩ := hn.ok rfl
          by_cases g2 : v.f0 = 2
          · rw [if_pos g2] at hH
            refine Ev.bind hH ?_
            refine Ev.pos rfl (Ev.pos g2 (Ev.pos rfl (Ev.some ?_)))
            rcases val_bit hv1 g2 with e | e <;> rw [e] <;> rfl
          · rw [if_neg g2] at hH
            refine Ev.bind hH ?_
            exact Ev.pos rfl (Ev.neg g2 (Ev.pos rfl (Ev.some rfl)))
        · refine Ev.bind (Holds_err hE ge) ?_
          exact Ev.neg ge (Ev.pos rfl (Ev.some rfl))
    · exact Ev.neg he (Ev.some rfl)
end Go.Proofs.YtbngfhlciebeeaaDoor.Sp
end
