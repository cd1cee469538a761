/- Printed and hand-written steps towards the row (EvalTyped), those that it reaches. -/
import Derived.Test.YtbngfhlciebeeaaDoorEvalTypedG3
import Derived.Test.YtbngfhlciebeeaaDoorEvalTypedG4
import Derived.Test.YtbngfhlciebeeaaDoorEvalTypedG10
import Derived.Test.YtbngfhlciebeeaaDoorEvalTypedG15
import Derived.Test.YtbngfhlciebeeaaDoorEvalTypedG24
import Derived.Test.YtbngfhlciebeeaaDoorEvalTypedG20
import Derived.Test.YtbngfhlciebeeaaDoorEvalTypedG21
import Derived.Test.YtbngfhlciebeeaaDoorEvalTypedG22
import Derived.Test.YtbngfhlciebeeaaDoorEvalTypedG25
section
namespace Go.Proofs.YtbngfhlciebeeaaDoor.L
open Go.RowKit Go.Proofs.YtbngfhlciebeeaaDoorW.PrintWords Go.Proofs.YtbngfhlciebeeaaDoorW.PrintLast Go.Proofs.YtbngfhlciebeeaaDoorW.PrintMore
attribute [local go_sem] max2_int min2_int max_two min_two max_three min_three max_four min_four   -- for this text's walks alone
set_option linter.unusedVariables false
set_option linter.unusedSimpArgs false
attribute [local go_sem high] eqA103
mutual
def whirligiglaw05_EvalTyped.j0 : Nat → ByteArray → List ByteArray → Bool → List (S116) → List ByteArray → Option (Bool)
 | 0, _, _, _, _, _ => none
 | k + 1, x0, x2, x36, x1383000, x1383001 => if x36 = true then (some true) else (whirligiglaw05_EvalTyped.l0 k x0 x1383000 (x1383000.length : Int) 0 x1383000 x1383001 ([] : List (S118)) x2)
def whirligiglaw05_EvalTyped.l0 : Nat → ByteArray → List (S116) → Int → Int → List (S116) → List ByteArray → List (S118) → List ByteArray → Option (Bool)
 | 0, _, _, _, _, _, _, _, _ => none
 | k + 1, x0, x40, x41, x42, x1383000, x1383001, x1389000, x1389001 => if x42 < x41 then (if 0 ≤ x42 then (if x42 < (x40.length : Int) then (if x1389000.length < 5864062014805 then (whirligiglaw05_EvalTyped.l0 k x0 x40 x41 (wrap64 (x42 + 1)) x1383000 x1383001 (x1389000 ++ [(⟨(rd_T116 x40 x42).f0, (rd_T116 x40 x42).f1.f0⟩ : S118)]) x1389001) else (none)) else (none)) else (none)) else ((expr_Read.f k x0).bind fun bt1394 => (if bt1394.2 = 0 then ((kind_Of.f k bt1394.1 x1389000 x1389001).bind fun bt1398 => (if bt1398.2 = 0 then ((eval_Eval.f k bt1394.1 x1383000 x1383001).bind fun bt1400 => (if bt1400.2.2.2 = 0 then (if bt1400.1 = bt1398.1 then ((val_Value_Right.f bt1400.1 bt1400.2.1 bt1400.2.2.1).bind fun t1405 => (some t1405)) else (some false)) else (if (bt1400.1 == 0 && (bt1400.2.1 == 0 && (bt1400.2.2.1.toList == ([] : List UInt8)))) = true then (if bt1400.2.2.2 = 21 then (some true) else (if bt1400.2.2.2 = 22 then (some true) else (some (bt1400.2.2.2 == 15)))) else (some false)))) else (some true))) else (some true)))
end
def whirligiglaw05_EvalTyped.f (k : Nat) (a0 : ByteArray) (l1_0 : List (S116)) (l1_1 : List ByteArray) (l2 : List ByteArray) : Option (Bool) := (whirligiglaw05_anchor.f k).bind fun t1383 => (if t1383 = true then ((whirligiglaw05_cells.f k l1_0 l1_1).bind fun bt1384 => (if bt1384.2 = true then (if (a0.size : Int) > 600 then (whirligiglaw05_EvalTyped.j0 k a0 l2 true l1_0 l1_1) else (whirligiglaw05_EvalTyped.j0 k a0 l2 (decide ((l2.length : Int) > 100)) l1_0 l1_1)) else (whirligiglaw05_EvalTyped.j0 k a0 l2 true l1_0 l1_1))) else (some false))
set_option maxHeartbeats 8000000 in
set_option maxRecDepth 100000 in
theorem whirligiglaw05_EvalTyped.calls (k : Nat) (a0 : ByteArray) (A1_0 : Option Addr) (c1_0 : Nat) (l1_0 : List (S116)) (A1_1 : Option Addr) (c1_1 : Nat) (l1_1 : List ByteArray) (A2 : Option Addr) (c2 : Nat) (l2 : List ByteArray) (r : Bool) (w : World) (hr1_0 : Kd.C k116 w A1_0 l1_0.length l1_0) (hc1_0 : l1_0.length ≤ c1_0) (hr1_1 : Kd.C Kd.string w A1_1 l1_1.length l1_1) (hc1_1 : l1_1.length ≤ c1_1) (hr2 : Kd.C Kd.string w A2 l2.length l2) (hc2 : l2.length ≤ c2) (hL : Laid w) (h : whirligiglaw05_EvalTyped.f k a0 l1_0 l1_1 l2 = some r) :
  Calls Tryd.prog 18 #[.string a0, .agg #[.slice A1_0 l1_0.length c1_0, .slice A1_1 l1_1.length c1_1], .slice A2 l2.length c2] w fun e w' => e = .returned (.bool r) ∧ Below w.heap.size w w' := by
 have hu98 := Tryd.underlying98
 have hu78 := Tryd.underlying78
 have hu116 := Tryd.underlying116
 have hu118 := Tryd.underlying118
 have hu103 := Tryd.underlying103
 have HR1_0 := Aside0.mk hr1_0
 have HC1_0 := Aside0.mk hc1_0
 clear hr1_0 hc1_0
 have HR1_1 := Aside0.mk hr1_1
 have HC1_1 := Aside0.mk hc1_1
 clear hr1_1 hc1_1
 have HR2 := Aside0.mk hr2
 have HC2 := Aside0.mk hc2
 clear hr2 hc2
 have HB := Aside0.mk (Below.refl w.heap.size w)
 have HLD := Aside0.mk hL
 clear hL
 have H : ((whirligiglaw05_anchor.f k).bind fun t1383 => (if t1383 = true then ((whirligiglaw05_cells.f k l1_0 l1_1).bind fun bt1384 => (if bt1384.2 = true then (if (a0.size : Int) > 600 then (whirligiglaw05_EvalTyped.j0 k a0 l2 true l1_0 l1_1) else (whirligiglaw05_EvalTyped.j0 k a0 l2 (decide ((l2.length : Int) > 100)) l1_0 l1_1)) else (whirligiglaw05_EvalTyped.j0 k a0 l2 true l1_0 l1_1))) else (some false))) = some r := h
 clear h
 replace H := Option.bind_eq_some_iff.mp H
 obtain ⟨t1383, A40, H⟩ := H
 (try dsimp -simprocs only at H)
 have A4 := Aside0.mk A40
 clear A40
 by_cases c5 : t1383 = true
 ·subst c5
  rw [if_pos rfl] at H
  replace H := Option.bind_eq_some_iff.mp H
  obtain ⟨⟨t1384, t1387⟩, A60, H⟩ := H
  (try dsimp -simprocs only at H)
  have A6 := Aside0.mk A60
  clear A60
  have HC7 := Aside0.mk H
  clear H
  go_enter Tryd.func18, Tryd.ntmps18
  go_upto_region 4 with (first | ((with_reducible refine gate_dst (N := 4) rfl ?_); (try (refine gate_guard (by rfl) ?_; dsimp only)); refine box_event ?hg (N := 4) ?hd (cs := #[.slice A1_0 l1_0.length c1_0, .slice A1_1 l1_1.length c1_1]) (t := 98) ?hr ?_; (case hd => rfl); (case hg => rfl); (case hr => first | (go_simp; done) | (go_simp; rfl)); intro gb1382 hg w8 hbox hb; have BK1382 := Aside0.mk (hbox); have GW1382 := geS hg; have GE1382 := geS hg; replace HB := bst hb; clear hb hbox hg) | ((with_reducible refine gc 59 rfl ?_); refine gl (some 18) #[] Tryd.func59 ?_; (with_reducible refine (whirligiglaw05_anchor.calls k  true _ ?side1 A4.out).mono ?_); (case side1 => exact Laid.below HLD.out qB); rintro e w9 ⟨rfl, hb⟩; refine ⟨_, rfl, ?_⟩; replace BK1382 := kb gb1382 hb; replace HB := bst hb; (try clear hb); obtain ⟨_, _, _, _⟩ := cells2 BK1382.out) | ((with_reducible refine gc 60 rfl ?_); refine gl (some 22) #[.agg #[.slice A1_0 l1_0.length c1_0, .slice A1_1 l1_1.length c1_1]] Tryd.func60 ?_; (with_reducible refine (whirligiglaw05_cells.calls k _ _ l1_0 _ _ l1_1 t1384 t1387 _ ?side1 ?side2 ?side3 ?side4 A6.out).mono ?_); (case side1 => exact qC); (case side2 => exact HC1_0.out); (case side3 => exact qC); (case side4 => exact HC1_1.out); rintro e w11 ⟨v1385, rfl, ho0, hb⟩; refine ⟨_, rfl, ?_⟩; have HO1386 := Aside0.mk (Kd.R_lower ho0 (below_size qB)); replace BK1382 := kb gb1382 hb; replace HB := bst hb; (try clear hb); (try clear ho0)))
  (try simp only [Act.put, List.setIfInBounds_toArray, List.set_cons_zero, List.set_cons_succ])
  go_cut [36] (fun v36 wc => ∃ (kq : Nat) (x36_6 : Bool), v36 = .bool x36_6 ∧ Aside0 (whirligiglaw05_EvalTyped.j0 kq a0 l2 x36_6 l1_0 l1_1 = some r) ∧ Aside0 (kq ≤ k) ∧ Aside0 (wc.heap[gb1382]? = some (.cells #[(.slice A1_0 l1_0.length c1_0), (.slice A1_1 l1_1.length c1_1)] 98 (0, 0))) ∧ Aside0 (Below w.heap.size w wc))
  case first =>
   have H := HC7.out
   clear HC7
   by_cases c12 : t1387 = true
   ·subst c12
    rw [if_pos rfl] at H
    by_cases c13 : (a0.size : Int) > 600
    ·rw [if_pos c13] at H; have c13b0 := decide_eq_true c13; have c13b1 : decide (600 < a0.size) = true := decide_eq_true (by omega); clear c13; (first | rw [c13b0] | (simp only [i64_w, i32_w]; rw [c13b0]) | skip); have H' := Aside0.mk H; clear H
     go_wp2
     go_meet
     case rel => exact ⟨_, (true), qE, H', ⟨by first | omega | exact Nat.le_refl _⟩, ⟨qK⟩, ⟨qB⟩⟩
    rw [if_neg c13] at H
    have c13b0 := decide_eq_false c13
    have c13b1 : decide (600 < a0.size) = false := decide_eq_false (by omega)
    clear c13
    (first | rw [c13b0] | (simp only [i64_w, i32_w]; rw [c13b0]) | skip)
    have H' := Aside0.mk H
    clear H
    go_wp2
    go_meet
    case rel => exact ⟨_, (decide ((l2.length : Int) > 100)), qE, H', ⟨by first | omega | exact Nat.le_refl _⟩, ⟨qK⟩, ⟨qB⟩⟩
   replace c12 := Bool.eq_false_iff.mpr c12
   subst c12
   rw [if_neg (show ¬ (false = true) by decide)] at H
   have H' := Aside0.mk H
   clear H
   go_wp2
   go_meet
   case rel => exact ⟨_, (true), qE, H', ⟨by first | omega | exact Nat.le_refl _⟩, ⟨qK⟩, ⟨qB⟩⟩
  case rest =>
   clear HC7
   try clear p2
   obtain ⟨kq, x36_6, rfl, HA, HJ6, BK1382, HB⟩ := hcut
   cases kq with
   | zero => exact absurd HA.out (by simp [whirligiglaw05_EvalTyped.j0])
   | succ kj6 =>
    have H := HA.out
    clear HA
    simp only [whirligiglaw05_EvalTyped.j0] at H
    by_cases c14 : x36_6 = true
    ·subst c14; rw [if_pos rfl] at H; obtain rfl := Option.some.inj H
     go_wp2
     go_ret; exact ⟨qR, qB⟩
    replace c14 := Bool.eq_false_iff.mpr c14
    subst c14
    rw [if_neg (show ¬ (false = true) by decide)] at H
    have H' := Aside0.mk H
    clear H
    go_wp2_with (first | ((with_reducible refine gate_dst (N := 9) rfl ?_); (try (refine gate_guard (by rfl) ?_; dsimp only)); refine box_event ?hg (N := 9) ?hd (cs := #[.slice none 0 0, .slice none 0 0]) (t := 78) ?hr ?_; (case hd => rfl); (case hg => rfl); (case hr => first | (go_simp; done) | (go_simp; rfl)); intro gb1388 hg w15 hbox hb; have BK1388 := Aside0.mk (hbox); have GW1388 := geS hg; have GE1388 := geS hg; have NB1382_1388 := neS gb1382 hg; have NB1388_1382 := neT gb1382 hg; replace BK1382 := kb gb1382 hb; replace HB := bst hb; clear hb hbox hg; have := NB1388_1382.out; have := NB1382_1388.out; obtain ⟨_, _, _, _⟩ := cells2 BK1388.out; obtain ⟨_, _, _, _⟩ := cells2 BK1382.out))
    go_loopg [42] kj6 (fun kq v42 w' => ∃ (x42_2 : Int) (x1389000_2 : List (S118)) (u1389000 : Value), v42 = .int .i64 x42_2 ∧ Aside0 (whirligiglaw05_EvalTyped.l0 kq a0 l1_0 (l1_0.length : Int) x42_2 l1_0 l1_1 x1389000_2 l2 = some r) ∧ Aside0 (kq ≤ kj6) ∧ Aside0 (Kd.R k118 118 w' w.heap.size (fun _ => True) u1389000 x1389000_2) ∧ Aside0 (w'.heap[gb1382]? = some (.cells #[(.slice A1_0 l1_0.length c1_0), (.slice A1_1 l1_1.length c1_1)] 98 (0, 0))) ∧ Aside0 (w'.heap[gb1388]? = some (.cells #[u1389000, (.slice A2 l2.length c2)] 78 (0, 0))) ∧ Aside0 (Below w.heap.size w w'))
    case atStart => exact ⟨(0), (([] : List (S118))), (.slice none 0 0), qE, H', ⟨Nat.le_refl _⟩, ⟨by first | exact Kd.R_nil _ _ _ _ _ | exact Kd.N_nil _ _ _ _ _ | exact Kd.V_nil _ _ _ _ _ | exact Kd.Q_nil _ _ _ _ _ | exact Kd.S_nil _ _ _ _ _⟩, ⟨qK⟩, ⟨qP⟩, ⟨qB⟩⟩
    case round =>
     clear H'
     try clear p2 p2
     obtain ⟨x42_2, x1389000_2, u1389000, rfl, HA, HK2, HO_1389000, BK1382, BK1388, HB⟩ := hrel; cases gk with
     | zero => exact absurd HA.out (by simp [whirligiglaw05_EvalTyped.l0])
     | succ k2 =>
      have H := HA.out; clear HA; simp only [whirligiglaw05_EvalTyped.l0] at H; replace H := iD H
      rcases H with ⟨c19b0, H⟩ | ⟨c19b0, H⟩
      ·by_cases c20 : 0 ≤ x42_2
       ·rw [if_pos c20] at H; have c20b0 := decide_eq_true c20; clear c20; replace H := iD H
        rcases H with ⟨c21b0, H⟩ | ⟨c21b0, H⟩
        ·by_cases c22 : x1389000_2.length < 5864062014805
         ·rw [if_pos c22] at H; have LMc22 := Aside0.mk c22; clear c22; obtain ⟨y1391, hy1391⟩ : ∃ y_ : List (S118), y_ = (x1389000_2 ++ [(⟨(rd_T116 l1_0 x42_2).f0, (rd_T116 l1_0 x42_2).f1.f0⟩ : S118)]) := ⟨_, rfl⟩; replace H : (whirligiglaw05_EvalTyped.l0 k2 a0 l1_0 (l1_0.length : Int) (wrap64 (x42_2 + 1)) l1_0 l1_1 y1391 l2) = some r := by first | (rw [hy1391]; with_reducible exact H) | (have H2_ := (Option.bind_some _ _).symm.trans H; rw [hy1391]; with_reducible exact H2_) | (have H2_ := (Option.bind_some _ _).symm.trans H; with_reducible exact H2_) | with_reducible exact H | (rw [hy1391]; exact H) | exact H
          have Ny1391 := Aside0.mk hy1391; clear hy1391; have H' := Aside0.mk H; clear H; have p1389 : 0 ≤ (x42_2 : Int) := qD; have q1389 : x42_2 < (l1_0.length : Int) := qD; obtain ⟨ad1389, e1389, hx1389_0, hx1389_1, hx1389_2, hx1389_3⟩ := at_T116 (Kd.C_below HR1_0.out HB.out) x42_2 p1389 q1389; cases e1389; replace p1389 := eq_true p1389; replace q1389 := eq_true q1389
          go_wp2_with (first | ((with_reducible refine gate_dst (N := 11) rfl ?_); (try (refine gate_guard (by rfl) ?_; dsimp only)); refine box_event ?hg (N := 11) ?hd (cs := #[.string (⟨#[]⟩ : ByteArray), .int .i64 0, .int .i64 0, .string (⟨#[]⟩ : ByteArray)]) (t := 116) ?hr ?_; (case hd => rfl); (case hg => rfl); (case hr => first | (go_simp; done) | (go_simp; rfl)); intro gb1390 hg w23 hbox hb; have BK1390 := Aside0.mk (hbox); have GW1390 := geS hg; have GE1390 := geS hg; have NB1382_1390 := neS gb1382 hg; have NB1390_1382 := neT gb1382 hg; have NB1388_1390 := neS gb1388 hg; have NB1390_1388 := neT gb1388 hg; replace BK1382 := kb gb1382 hb; replace BK1388 := kb gb1388 hb; replace HO_1389000 := rb HO_1389000 hb; replace HB := bst hb; clear hb hbox hg; have := NB1390_1382.out; have := NB1382_1390.out; have := NB1390_1388.out; have := NB1388_1390.out; obtain ⟨_, _, _, _, _, _, _, _⟩ := cells4 BK1390.out; have := NB1388_1382.out; have := NB1382_1388.out; obtain ⟨_, _, _, _⟩ := cells2 BK1388.out) | ((with_reducible refine gate_builtin (b := .append) (xs := #[.tmp 47, .tmp 54]) rfl ?_); (try (refine gate_guard (by rfl) ?_; dsimp only)); at_builtin; refine Kd.R_append k118 (w0 := w) w.heap.size rfl (.tmp 47) (.tmp 54) 76 118 (.agg #[(.string ⟨#[]⟩), (.int .i64 0)]) 24 rfl Tryd.underlying76 info118 rfl (by decide) (by omega) u1389000 x1389000_2 (⟨(rd_T116 l1_0 x42_2).f0, (rd_T116 l1_0 x42_2).f1.f0⟩ : S118) [.string ((rd_T116 l1_0 x42_2).f0), .int .i64 ((rd_T116 l1_0 x42_2).f1.f0)] (fun _ => True) (fun _ => False) rfl (by first | (go_simp; done) | (go_simp; rfl)) ?aP (fun _ hk => hk.elim) ?aF ?aO ?aB ?aS ?aL ?_; (case aP => exact k118_mkM _ _ _ (⟨(rd_T116 l1_0 x42_2).f0, (rd_T116 l1_0 x42_2).f1.f0⟩ : S118)); (case aB => exact qB); (case aF => exact (fun _ _ => trivial)); (case aO => exact (by (with_reducible repeat (first | apply Kd.R_alloc | apply Kd.R_drewN | apply Kd.R_drew)); exact Kd.R_mono (Kd.R_far (p := ⟨gb1390, 3, none⟩) (Kd.R_far (p := ⟨gb1390, 2, none⟩) (Kd.R_far (p := ⟨gb1390, 1, none⟩) (Kd.R_far (p := ⟨gb1390, 0, none⟩) (Kd.R_types HO_1389000.out BK1390.out (by decide)) (fun _ hk => hk.2) (.string ((rd_T116 l1_0 x42_2).f0))) (fun _ hk => hk.2) (.int .i64 ((rd_T116 l1_0 x42_2).f1.f0))) (fun _ hk => hk.2) (.int .i64 ((rd_T116 l1_0 x42_2).f1.f1))) (fun _ hk => hk.2) (.string ((rd_T116 l1_0 x42_2).f1.f2))) (fun _ hk => trivial))); (case aS => exact (below_size qB)); (case aL => have := LMc22.out; omega); intro v1392 w29 ho hb hg hat; rw [← Ny1391.out] at ho; have n0_ := Aside0.mk (blk_grown (g := gb1382) (o := .cells #[.slice (some ad1389) l1_0.length c1_0, .slice A1_1 l1_1.length c1_1] 98 (0, 0)) qK hg (Kd.R_ne HO_1389000.out BK1382.out (by decide))); have n1_ := Aside0.mk (blk_grown (g := gb1388) (o := .cells #[u1389000, .slice A2 l2.length c2] 78 (0, 0)) qK hg (Kd.R_ne HO_1389000.out BK1388.out (by decide))); have n2_ := Aside0.mk (blk_grown (g := gb1390) (o := .cells #[.string ((rd_T116 l1_0 x42_2).f0), .int .i64 ((rd_T116 l1_0 x42_2).f1.f0), .int .i64 ((rd_T116 l1_0 x42_2).f1.f1), .string ((rd_T116 l1_0 x42_2).f1.f2)] 116 (0, 0)) qP hg (Kd.R_ne HO_1389000.out BK1390.out (by decide))); have n3_ := Aside0.mk (hb); have n4_ := Aside0.mk (ho); clear BK1382; clear BK1388; clear BK1390; clear HB; clear HO_1389000; have BK1382 := n0_; have BK1388 := n1_; have BK1390 := n2_; have HB := n3_; have HO1393 := n4_; clear n0_ n1_ n2_ n3_ n4_; clear ho hb hg hat; obtain ⟨Ao30, co30, eo30⟩ := Kd.R_slice HO1393.out; subst eo30; obtain ⟨_, _, _, _⟩ := cells2 BK1388.out))
          go_roundg k2
          case measure => have := HJ6.out; have := HK2.out; omega
          case rel => exact ⟨(wrap64 (x42_2 + 1)), (y1391), (.slice Ao30 y1391.length co30), qE, H', ⟨by have := HJ6.out; have := HK2.out; omega⟩, ⟨by (with_reducible repeat (first | apply Kd.R_alloc | apply Kd.R_drewN | apply Kd.R_drew)); exact Kd.R_mono (Kd.R_far (p := ⟨gb1388, 0, none⟩) (Kd.R_types HO1393.out BK1388.out (by decide)) (fun _ hk => hk.2) (.slice Ao30 y1391.length co30)) (fun _ hk => trivial)⟩, ⟨qK⟩, ⟨qP⟩, ⟨qB⟩⟩
         rw [if_neg c22] at H; exact absurd H (by simp)
        exact absurd H (by simp)
       rw [if_neg c20] at H; exact absurd H (by simp)
      replace H := Option.bind_eq_some_iff.mp H; obtain ⟨⟨t1394, t1395⟩, A320, H⟩ := H; (try dsimp -simprocs only at H); have A32 := Aside0.mk A320; clear A320
      by_cases c33 : t1395 = 0
      ·rw [if_pos c33] at H; have c33b0 := beq_iff_eq.mpr c33; have c33b1 := bne_eq_false_iff_eq.mpr c33; clear c33; replace H := Option.bind_eq_some_iff.mp H; obtain ⟨⟨t1398, t1399⟩, A340, H⟩ := H; (try dsimp -simprocs only at H); have A34 := Aside0.mk A340; clear A340
       by_cases c35 : t1399 = 0
       ·rw [if_pos c35] at H; have c35b0 := beq_iff_eq.mpr c35; have c35b1 := bne_eq_false_iff_eq.mpr c35; clear c35; replace H := Option.bind_eq_some_iff.mp H; obtain ⟨⟨t1400, t1401, t1402, t1403⟩, A360, H⟩ := H; (try dsimp -simprocs only at H); have A36 := Aside0.mk A360; clear A360
        by_cases c37 : t1403 = 0
        ·rw [if_pos c37] at H; have c37b0 := beq_iff_eq.mpr c37; have c37b1 := bne_eq_false_iff_eq.mpr c37; clear c37
         by_cases c38 : t1400 = t1398
         ·rw [if_pos c38] at H; have c38b0 := beq_iff_eq.mpr c38; have c38b1 := bne_eq_false_iff_eq.mpr c38; clear c38; replace H := Option.bind_eq_some_iff.mp H; obtain ⟨t1405, A390, H⟩ := H; (try dsimp -simprocs only at H); have A39 := Aside0.mk A390; clear A390; obtain rfl := Option.some.inj H
          go_wp2_with (first | ((with_reducible refine gc 53 rfl ?_); refine gl (some 60) #[.string a0] Tryd.func53 ?_; (with_reducible refine (expr_Read.calls k2 a0 t1394 t1395 _ ?side1 A32.out).mono ?_); (case side1 => exact Laid.below HLD.out qB); rintro e w40 ⟨v1396, rfl, ho0, hb⟩; refine ⟨_, rfl, ?_⟩; have HO1397 := Aside0.mk (Kd.R_lower ho0 (below_size qB)); replace BK1382 := kb gb1382 hb; replace BK1388 := kb gb1388 hb; replace HO_1389000 := rb HO_1389000 hb; replace HB := bst hb; (try clear hb); (try clear ho0); have := NB1388_1382.out; have := NB1382_1388.out; obtain ⟨_, _, _, _⟩ := cells2 BK1388.out; obtain ⟨Ao43, co43, eo43⟩ := Kd.R_slice HO1397.out; subst eo43; obtain ⟨Ao44, co44, eo44⟩ := Kd.R_slice HO_1389000.out; subst eo44) | ((with_reducible refine gc 54 rfl ?_); refine gl (some 68) #[.slice Ao43 t1394.length co43, .agg #[.slice Ao44 x1389000_2.length co44, .slice A2 l2.length c2]] Tryd.func54 ?_; (with_reducible refine (kind_Of.calls k2 _ _ t1394 _ _ x1389000_2 _ _ l2 t1398 t1399 _ ?side1 ?side2 ?side3 ?side4 ?side5 ?side6 ?side7 A34.out).mono ?_); (case side1 => exact cr HO1397); (case side2 => exact (Kd.R_reads' HO1397.out).2.1); (case side3 => exact cr HO_1389000); (case side4 => exact (Kd.R_reads' HO_1389000.out).2.1); (case side5 => exact qC); (case side6 => exact HC2.out); (case side7 => exact Laid.below HLD.out qB); rintro e w45 ⟨rfl, hb⟩; refine ⟨_, rfl, ?_⟩; replace BK1382 := kb gb1382 hb; replace BK1388 := kb gb1388 hb; replace HO_1389000 := rb HO_1389000 hb; replace HO1397 := rb HO1397 hb; replace HB := bst hb; (try clear hb); obtain ⟨_, _, _, _⟩ := cells2 BK1382.out) | ((with_reducible refine gc 61 rfl ?_); refine gl (some 76) #[.slice Ao43 t1394.length co43, .agg #[.slice A1_0 l1_0.length c1_0, .slice A1_1 l1_1.length c1_1]] Tryd.func61 ?_; (with_reducible refine (eval_Eval.calls k2 _ _ t1394 _ _ l1_0 _ _ l1_1 t1400 t1401 t1402 t1403 _ ?side1 ?side2 ?side3 ?side4 ?side5 ?side6 ?side7 A36.out).mono ?_); (case side1 => exact cr HO1397); (case side2 => exact (Kd.R_reads' HO1397.out).2.1); (case side3 => exact qC); (case side4 => exact HC1_0.out); (case side5 => exact qC); (case side6 => exact HC1_1.out); (case side7 => exact Laid.below HLD.out qB); rintro e w47 ⟨rfl, hb⟩; refine ⟨_, rfl, ?_⟩; replace BK1382 := kb gb1382 hb; replace BK1388 := kb gb1388 hb; replace HO_1389000 := rb HO_1389000 hb; replace HO1397 := rb HO1397 hb; replace HB := bst hb; (try clear hb)) | ((with_reducible refine gate_dst (N := 16) rfl ?_); (try (refine gate_guard (by rfl) ?_; dsimp only)); refine box_event ?hg (N := 16) ?hd (cs := #[.int .i64 0, .int .i64 0, .string (⟨#[]⟩ : ByteArray)]) (t := 103) ?hr ?_; (case hd => rfl); (case hg => rfl); (case hr => first | (go_simp; done) | (go_simp; rfl)); intro gb1404 hg w48 hbox hb; have BK1404 := Aside0.mk (hbox); have GW1404 := geS hg; have GE1404 := geS hg; have NB1382_1404 := neS gb1382 hg; have NB1404_1382 := neT gb1382 hg; have NB1388_1404 := neS gb1388 hg; have NB1404_1388 := neT gb1388 hg; replace BK1382 := kb gb1382 hb; replace BK1388 := kb gb1388 hb; replace HO_1389000 := rb HO_1389000 hb; replace HO1397 := rb HO1397 hb; replace HB := bst hb; clear hb hbox hg; have := NB1404_1382.out; have := NB1382_1404.out; have := NB1404_1388.out; have := NB1388_1404.out; obtain ⟨_, _, _, _, _, _⟩ := cells3 BK1404.out) | (go_at_call 66; (with_reducible refine (val_Value_Right.calls t1400 t1401 t1402 t1405 _ A39.out).mono ?_); rintro e w52 ⟨rfl, hb⟩; have n0_ := Aside0.mk (Kd.R_below (by (with_reducible repeat (first | apply Kd.R_alloc | apply Kd.R_drewN | apply Kd.R_drew)); exact (Kd.R_mono (Kd.R_far (p := ⟨gb1404, 2, none⟩) (Kd.R_far (p := ⟨gb1404, 1, none⟩) (Kd.R_far (p := ⟨gb1404, 0, none⟩) (Kd.R_types HO_1389000.out BK1404.out (by decide)) (fun _ hk => hk.2) (.int .i64 t1400)) (fun _ hk => hk.2) (.int .i64 t1401)) (fun _ hk => hk.2) (.string t1402)) (fun _ h_ => h_.1))) hb); have n1_ := Aside0.mk (Kd.R_below (by (with_reducible repeat (first | apply Kd.R_alloc | apply Kd.R_drewN | apply Kd.R_drew)); exact (Kd.R_mono (Kd.R_far (p := ⟨gb1404, 2, none⟩) (Kd.R_far (p := ⟨gb1404, 1, none⟩) (Kd.R_far (p := ⟨gb1404, 0, none⟩) (Kd.R_types HO1397.out BK1404.out (by decide)) (fun _ hk => hk.2) (.int .i64 t1400)) (fun _ hk => hk.2) (.int .i64 t1401)) (fun _ hk => hk.2) (.string t1402)) (fun _ h_ => h_.1))) hb); have n2_ := kb gb1382 hb; have n3_ := kb gb1388 hb; have n4_ := kp gb1404 (.cells #[.int .i64 t1400, .int .i64 t1401, .string t1402] 103 (0, 0)) hb; have n5_ := bst hb; clear HO_1389000; clear HO1397; clear BK1382; clear BK1388; clear BK1404; clear HB; have HO_1389000 := n0_; have HO1397 := n1_; have BK1382 := n2_; have BK1388 := n3_; have BK1404 := n4_; have HB := n5_; clear n0_ n1_ n2_ n3_ n4_ n5_; (try clear hb)))
          go_ret; exact ⟨qR, qB⟩
         rw [if_neg c38] at H; have c38b0 := beq_eq_false_iff_ne.mpr c38; have c38b1 := bne_iff_ne.mpr c38; obtain rfl := Option.some.inj H
         go_wp2_with (first | ((with_reducible refine gc 53 rfl ?_); refine gl (some 60) #[.string a0] Tryd.func53 ?_; (with_reducible refine (expr_Read.calls k2 a0 t1394 t1395 _ ?side1 A32.out).mono ?_); (case side1 => exact Laid.below HLD.out qB); rintro e w53 ⟨v1396, rfl, ho0, hb⟩; refine ⟨_, rfl, ?_⟩; have HO1397 := Aside0.mk (Kd.R_lower ho0 (below_size qB)); replace BK1382 := kb gb1382 hb; replace BK1388 := kb gb1388 hb; replace HO_1389000 := rb HO_1389000 hb; replace HB := bst hb; (try clear hb); (try clear ho0); have := NB1388_1382.out; have := NB1382_1388.out; obtain ⟨_, _, _, _⟩ := cells2 BK1388.out; obtain ⟨Ao56, co56, eo56⟩ := Kd.R_slice HO1397.out; subst eo56; obtain ⟨Ao57, co57, eo57⟩ := Kd.R_slice HO_1389000.out; subst eo57) | ((with_reducible refine gc 54 rfl ?_); refine gl (some 68) #[.slice Ao56 t1394.length co56, .agg #[.slice Ao57 x1389000_2.length co57, .slice A2 l2.length c2]] Tryd.func54 ?_; (with_reducible refine (kind_Of.calls k2 _ _ t1394 _ _ x1389000_2 _ _ l2 t1398 t1399 _ ?side1 ?side2 ?side3 ?side4 ?side5 ?side6 ?side7 A34.out).mono ?_); (case side1 => exact cr HO1397); (case side2 => exact (Kd.R_reads' HO1397.out).2.1); (case side3 => exact cr HO_1389000); (case side4 => exact (Kd.R_reads' HO_1389000.out).2.1); (case side5 => exact qC); (case side6 => exact HC2.out); (case side7 => exact Laid.below HLD.out qB); rintro e w58 ⟨rfl, hb⟩; refine ⟨_, rfl, ?_⟩; replace BK1382 := kb gb1382 hb; replace BK1388 := kb gb1388 hb; replace HO_1389000 := rb HO_1389000 hb; replace HO1397 := rb HO1397 hb; replace HB := bst hb; (try clear hb); obtain ⟨_, _, _, _⟩ := cells2 BK1382.out) | ((with_reducible refine gc 61 rfl ?_); refine gl (some 76) #[.slice Ao56 t1394.length co56, .agg #[.slice A1_0 l1_0.length c1_0, .slice A1_1 l1_1.length c1_1]] Tryd.func61 ?_; (with_reducible refine (eval_Eval.calls k2 _ _ t1394 _ _ l1_0 _ _ l1_1 t1400 t1401 t1402 t1403 _ ?side1 ?side2 ?side3 ?side4 ?side5 ?side6 ?side7 A36.out).mono ?_); (case side1 => exact cr HO1397); (case side2 => exact (Kd.R_reads' HO1397.out).2.1); (case side3 => exact qC); (case side4 => exact HC1_0.out); (case side5 => exact qC); (case side6 => exact HC1_1.out); (case side7 => exact Laid.below HLD.out qB); rintro e w60 ⟨rfl, hb⟩; refine ⟨_, rfl, ?_⟩; replace BK1382 := kb gb1382 hb; replace BK1388 := kb gb1388 hb; replace HO_1389000 := rb HO_1389000 hb; replace HO1397 := rb HO1397 hb; replace HB := bst hb; (try clear hb)) | ((with_reducible refine gate_dst (N := 16) rfl ?_); (try (refine gate_guard (by rfl) ?_; dsimp only)); refine box_event ?hg (N := 16) ?hd (cs := #[.int .i64 0, .int .i64 0, .string (⟨#[]⟩ : ByteArray)]) (t := 103) ?hr ?_; (case hd => rfl); (case hg => rfl); (case hr => first | (go_simp; done) | (go_simp; rfl)); intro gb1404 hg w61 hbox hb; have BK1404 := Aside0.mk (hbox); have GW1404 := geS hg; have GE1404 := geS hg; have NB1382_1404 := neS gb1382 hg; have NB1404_1382 := neT gb1382 hg; have NB1388_1404 := neS gb1388 hg; have NB1404_1388 := neT gb1388 hg; replace BK1382 := kb gb1382 hb; replace BK1388 := kb gb1388 hb; replace HO_1389000 := rb HO_1389000 hb; replace HO1397 := rb HO1397 hb; replace HB := bst hb; clear hb hbox hg; have := NB1404_1382.out; have := NB1382_1404.out; have := NB1404_1388.out; have := NB1388_1404.out; obtain ⟨_, _, _, _, _, _⟩ := cells3 BK1404.out))
         go_ret; exact ⟨qR, qB⟩
        rw [if_neg c37] at H; have c37b0 := beq_eq_false_iff_ne.mpr c37; have c37b1 := bne_iff_ne.mpr c37
        by_cases c65 : (t1400 == 0 && (t1401 == 0 && (t1402.toList == ([] : List UInt8)))) = true
        ·rw [if_pos c65] at H; have c65b0 : (t1400 == 0 && (t1401 == 0 && (t1402.toList == ([] : List UInt8)))) = true := c65; (try (have c65b1 : decide (t1400 = 0 && (t1401 == 0 && (t1402.toList == ([] : List UInt8)))) = true := by simpa using c65)); (try (have c65b2 : (t1400 == 0 && (t1401 == 0 && (t1402.toList == ([] : List UInt8)))) = true := by simpa using c65)); have c65n := c65b0; simp only [eq_nil_isEmpty] at c65n; clear c65
         by_cases c66 : t1403 = 21
         ·rw [if_pos c66] at H; have c66b0 := beq_iff_eq.mpr c66; have c66b1 := bne_eq_false_iff_eq.mpr c66; clear c66; obtain rfl := Option.some.inj H
          go_wp2_with (first | ((with_reducible refine gc 53 rfl ?_); refine gl (some 60) #[.string a0] Tryd.func53 ?_; (with_reducible refine (expr_Read.calls k2 a0 t1394 t1395 _ ?side1 A32.out).mono ?_); (case side1 => exact Laid.below HLD.out qB); rintro e w67 ⟨v1396, rfl, ho0, hb⟩; refine ⟨_, rfl, ?_⟩; have HO1397 := Aside0.mk (Kd.R_lower ho0 (below_size qB)); replace BK1382 := kb gb1382 hb; replace BK1388 := kb gb1388 hb; replace HO_1389000 := rb HO_1389000 hb; replace HB := bst hb; (try clear hb); (try clear ho0); have := NB1388_1382.out; have := NB1382_1388.out; obtain ⟨_, _, _, _⟩ := cells2 BK1388.out; obtain ⟨Ao70, co70, eo70⟩ := Kd.R_slice HO1397.out; subst eo70; obtain ⟨Ao71, co71, eo71⟩ := Kd.R_slice HO_1389000.out; subst eo71) | ((with_reducible refine gc 54 rfl ?_); refine gl (some 68) #[.slice Ao70 t1394.length co70, .agg #[.slice Ao71 x1389000_2.length co71, .slice A2 l2.length c2]] Tryd.func54 ?_; (with_reducible refine (kind_Of.calls k2 _ _ t1394 _ _ x1389000_2 _ _ l2 t1398 t1399 _ ?side1 ?side2 ?side3 ?side4 ?side5 ?side6 ?side7 A34.out).mono ?_); (case side1 => exact cr HO1397); (case side2 => exact (Kd.R_reads' HO1397.out).2.1); (case side3 => exact cr HO_1389000); (case side4 => exact (Kd.R_reads' HO_1389000.out).2.1); (case side5 => exact qC); (case side6 => exact HC2.out); (case side7 => exact Laid.below HLD.out qB); rintro e w72 ⟨rfl, hb⟩; refine ⟨_, rfl, ?_⟩; replace BK1382 := kb gb1382 hb; replace BK1388 := kb gb1388 hb; replace HO_1389000 := rb HO_1389000 hb; replace HO1397 := rb HO1397 hb; replace HB := bst hb; (try clear hb); obtain ⟨_, _, _, _⟩ := cells2 BK1382.out) | ((with_reducible refine gc 61 rfl ?_); refine gl (some 76) #[.slice Ao70 t1394.length co70, .agg #[.slice A1_0 l1_0.length c1_0, .slice A1_1 l1_1.length c1_1]] Tryd.func61 ?_; (with_reducible refine (eval_Eval.calls k2 _ _ t1394 _ _ l1_0 _ _ l1_1 t1400 t1401 t1402 t1403 _ ?side1 ?side2 ?side3 ?side4 ?side5 ?side6 ?side7 A36.out).mono ?_); (case side1 => exact cr HO1397); (case side2 => exact (Kd.R_reads' HO1397.out).2.1); (case side3 => exact qC); (case side4 => exact HC1_0.out); (case side5 => exact qC); (case side6 => exact HC1_1.out); (case side7 => exact Laid.below HLD.out qB); rintro e w74 ⟨rfl, hb⟩; refine ⟨_, rfl, ?_⟩; replace BK1382 := kb gb1382 hb; replace BK1388 := kb gb1388 hb; replace HO_1389000 := rb HO_1389000 hb; replace HO1397 := rb HO1397 hb; replace HB := bst hb; (try clear hb)) | ((with_reducible refine gate_dst (N := 16) rfl ?_); (try (refine gate_guard (by rfl) ?_; dsimp only)); refine box_event ?hg (N := 16) ?hd (cs := #[.int .i64 0, .int .i64 0, .string (⟨#[]⟩ : ByteArray)]) (t := 103) ?hr ?_; (case hd => rfl); (case hg => rfl); (case hr => first | (go_simp; done) | (go_simp; rfl)); intro gb1404 hg w75 hbox hb; have BK1404 := Aside0.mk (hbox); have GW1404 := geS hg; have GE1404 := geS hg; have NB1382_1404 := neS gb1382 hg; have NB1404_1382 := neT gb1382 hg; have NB1388_1404 := neS gb1388 hg; have NB1404_1388 := neT gb1388 hg; replace BK1382 := kb gb1382 hb; replace BK1388 := kb gb1388 hb; replace HO_1389000 := rb HO_1389000 hb; replace HO1397 := rb HO1397 hb; replace HB := bst hb; clear hb hbox hg; have := NB1404_1382.out; have := NB1382_1404.out; have := NB1404_1388.out; have := NB1388_1404.out; obtain ⟨_, _, _, _, _, _⟩ := cells3 BK1404.out))
          go_ret; exact ⟨qR, qB⟩
         rw [if_neg c66] at H; have c66b0 := beq_eq_false_iff_ne.mpr c66; have c66b1 := bne_iff_ne.mpr c66
         by_cases c79 : t1403 = 22
         ·rw [if_pos c79] at H; have c79b0 := beq_iff_eq.mpr c79; have c79b1 := bne_eq_false_iff_eq.mpr c79; clear c79; obtain rfl := Option.some.inj H
          go_wp2_with (first | ((with_reducible refine gc 53 rfl ?_); refine gl (some 60) #[.string a0] Tryd.func53 ?_; (with_reducible refine (expr_Read.calls k2 a0 t1394 t1395 _ ?side1 A32.out).mono ?_); (case side1 => exact Laid.below HLD.out qB); rintro e w80 ⟨v1396, rfl, ho0, hb⟩; refine ⟨_, rfl, ?_⟩; have HO1397 := Aside0.mk (Kd.R_lower ho0 (below_size qB)); replace BK1382 := kb gb1382 hb; replace BK1388 := kb gb1388 hb; replace HO_1389000 := rb HO_1389000 hb; replace HB := bst hb; (try clear hb); (try clear ho0); have := NB1388_1382.out; have := NB1382_1388.out; obtain ⟨_, _, _, _⟩ := cells2 BK1388.out; obtain ⟨Ao83, co83, eo83⟩ := Kd.R_slice HO1397.out; subst eo83; obtain ⟨Ao84, co84, eo84⟩ := Kd.R_slice HO_1389000.out; subst eo84) | ((with_reducible refine gc 54 rfl ?_); refine gl (some 68) #[.slice Ao83 t1394.length co83, .agg #[.slice Ao84 x1389000_2.length co84, .slice A2 l2.length c2]] Tryd.func54 ?_; (with_reducible refine (kind_Of.calls k2 _ _ t1394 _ _ x1389000_2 _ _ l2 t1398 t1399 _ ?side1 ?side2 ?side3 ?side4 ?side5 ?side6 ?side7 A34.out).mono ?_); (case side1 => exact cr HO1397); (case side2 => exact (Kd.R_reads' HO1397.out).2.1); (case side3 => exact cr HO_1389000); (case side4 => exact (Kd.R_reads' HO_1389000.out).2.1); (case side5 => exact qC); (case side6 => exact HC2.out); (case side7 => exact Laid.below HLD.out qB); rintro e w85 ⟨rfl, hb⟩; refine ⟨_, rfl, ?_⟩; replace BK1382 := kb gb1382 hb; replace BK1388 := kb gb1388 hb; replace HO_1389000 := rb HO_1389000 hb; replace HO1397 := rb HO1397 hb; replace HB := bst hb; (try clear hb); obtain ⟨_, _, _, _⟩ := cells2 BK1382.out) | ((with_reducible refine gc 61 rfl ?_); refine gl (some 76) #[.slice Ao83 t1394.length co83, .agg #[.slice A1_0 l1_0.length c1_0, .slice A1_1 l1_1.length c1_1]] Tryd.func61 ?_; (with_reducible refine (eval_Eval.calls k2 _ _ t1394 _ _ l1_0 _ _ l1_1 t1400 t1401 t1402 t1403 _ ?side1 ?side2 ?side3 ?side4 ?side5 ?side6 ?side7 A36.out).mono ?_); (case side1 => exact cr HO1397); (case side2 => exact (Kd.R_reads' HO1397.out).2.1); (case side3 => exact qC); (case side4 => exact HC1_0.out); (case side5 => exact qC); (case side6 => exact HC1_1.out); (case side7 => exact Laid.below HLD.out qB); rintro e w87 ⟨rfl, hb⟩; refine ⟨_, rfl, ?_⟩; replace BK1382 := kb gb1382 hb; replace BK1388 := kb gb1388 hb; replace HO_1389000 := rb HO_1389000 hb; replace HO1397 := rb HO1397 hb; replace HB := bst hb; (try clear hb)) | ((with_reducible refine gate_dst (N := 16) rfl ?_); (try (refine gate_guard (by rfl) ?_; dsimp only)); refine box_event ?hg (N := 16) ?hd (cs := #[.int .i64 0, .int .i64 0, .string (⟨#[]⟩ : ByteArray)]) (t := 103) ?hr ?_; (case hd => rfl); (case hg => rfl); (case hr => first | (go_simp; done) | (go_simp; rfl)); intro gb1404 hg w88 hbox hb; have BK1404 := Aside0.mk (hbox); have GW1404 := geS hg; have GE1404 := geS hg; have NB1382_1404 := neS gb1382 hg; have NB1404_1382 := neT gb1382 hg; have NB1388_1404 := neS gb1388 hg; have NB1404_1388 := neT gb1388 hg; replace BK1382 := kb gb1382 hb; replace BK1388 := kb gb1388 hb; replace HO_1389000 := rb HO_1389000 hb; replace HO1397 := rb HO1397 hb; replace HB := bst hb; clear hb hbox hg; have := NB1404_1382.out; have := NB1382_1404.out; have := NB1404_1388.out; have := NB1388_1404.out; obtain ⟨_, _, _, _, _, _⟩ := cells3 BK1404.out))
          go_ret; exact ⟨qR, qB⟩
         rw [if_neg c79] at H; have c79b0 := beq_eq_false_iff_ne.mpr c79; have c79b1 := bne_iff_ne.mpr c79; obtain rfl := Option.some.inj H
         go_wp2_with (first | ((with_reducible refine gc 53 rfl ?_); refine gl (some 60) #[.string a0] Tryd.func53 ?_; (with_reducible refine (expr_Read.calls k2 a0 t1394 t1395 _ ?side1 A32.out).mono ?_); (case side1 => exact Laid.below HLD.out qB); rintro e w92 ⟨v1396, rfl, ho0, hb⟩; refine ⟨_, rfl, ?_⟩; have HO1397 := Aside0.mk (Kd.R_lower ho0 (below_size qB)); replace BK1382 := kb gb1382 hb; replace BK1388 := kb gb1388 hb; replace HO_1389000 := rb HO_1389000 hb; replace HB := bst hb; (try clear hb); (try clear ho0); have := NB1388_1382.out; have := NB1382_1388.out; obtain ⟨_, _, _, _⟩ := cells2 BK1388.out; obtain ⟨Ao95, co95, eo95⟩ := Kd.R_slice HO1397.out; subst eo95; obtain ⟨Ao96, co96, eo96⟩ := Kd.R_slice HO_1389000.out; subst eo96) | ((with_reducible refine gc 54 rfl ?_); refine gl (some 68) #[.slice Ao95 t1394.length co95, .agg #[.slice Ao96 x1389000_2.length co96, .slice A2 l2.length c2]] Tryd.func54 ?_; (with_reducible refine (kind_Of.calls k2 _ _ t1394 _ _ x1389000_2 _ _ l2 t1398 t1399 _ ?side1 ?side2 ?side3 ?side4 ?side5 ?side6 ?side7 A34.out).mono ?_); (case side1 => exact cr HO1397); (case side2 => exact (Kd.R_reads' HO1397.out).2.1); (case side3 => exact cr HO_1389000); (case side4 => exact (Kd.R_reads' HO_1389000.out).2.1); (case side5 => exact qC); (case side6 => exact HC2.out); (case side7 => exact Laid.below HLD.out qB); rintro e w97 ⟨rfl, hb⟩; refine ⟨_, rfl, ?_⟩; replace BK1382 := kb gb1382 hb; replace BK1388 := kb gb1388 hb; replace HO_1389000 := rb HO_1389000 hb; replace HO1397 := rb HO1397 hb; replace HB := bst hb; (try clear hb); obtain ⟨_, _, _, _⟩ := cells2 BK1382.out) | ((with_reducible refine gc 61 rfl ?_); refine gl (some 76) #[.slice Ao95 t1394.length co95, .agg #[.slice A1_0 l1_0.length c1_0, .slice A1_1 l1_1.length c1_1]] Tryd.func61 ?_; (with_reducible refine (eval_Eval.calls k2 _ _ t1394 _ _ l1_0 _ _ l1_1 t1400 t1401 t1402 t1403 _ ?side1 ?side2 ?side3 ?side4 ?side5 ?side6 ?side7 A36.out).mono ?_); (case side1 => exact cr HO1397); (case side2 => exact (Kd.R_reads' HO1397.out).2.1); (case side3 => exact qC); (case side4 => exact HC1_0.out); (case side5 => exact qC); (case side6 => exact HC1_1.out); (case side7 => exact Laid.below HLD.out qB); rintro e w99 ⟨rfl, hb⟩; refine ⟨_, rfl, ?_⟩; replace BK1382 := kb gb1382 hb; replace BK1388 := kb gb1388 hb; replace HO_1389000 := rb HO_1389000 hb; replace HO1397 := rb HO1397 hb; replace HB := bst hb; (try clear hb)) | ((with_reducible refine gate_dst (N := 16) rfl ?_); (try (refine gate_guard (by rfl) ?_; dsimp only)); refine box_event ?hg (N := 16) ?hd (cs := #[.int .i64 0, .int .i64 0, .string (⟨#[]⟩ : ByteArray)]) (t := 103) ?hr ?_; (case hd => rfl); (case hg => rfl); (case hr => first | (go_simp; done) | (go_simp; rfl)); intro gb1404 hg w100 hbox hb; have BK1404 := Aside0.mk (hbox); have GW1404 := geS hg; have GE1404 := geS hg; have NB1382_1404 := neS gb1382 hg; have NB1404_1382 := neT gb1382 hg; have NB1388_1404 := neS gb1388 hg; have NB1404_1388 := neT gb1388 hg; replace BK1382 := kb gb1382 hb; replace BK1388 := kb gb1388 hb; replace HO_1389000 := rb HO_1389000 hb; replace HO1397 := rb HO1397 hb; replace HB := bst hb; clear hb hbox hg; have := NB1404_1382.out; have := NB1382_1404.out; have := NB1404_1388.out; have := NB1388_1404.out; obtain ⟨_, _, _, _, _, _⟩ := cells3 BK1404.out))
         go_ret; exact ⟨qR, qB⟩
        rw [if_neg c65] at H; have c65b0 : (t1400 == 0 && (t1401 == 0 && (t1402.toList == ([] : List UInt8)))) = false := by simpa using c65
        (try (have c65b1 : decide (t1400 = 0 && (t1401 == 0 && (t1402.toList == ([] : List UInt8)))) = false := by simpa using c65)); (try (have c65b2 : (t1400 == 0 && (t1401 == 0 && (t1402.toList == ([] : List UInt8)))) = false := by simpa using c65)); (try (have c65b3 : ¬ (t1400 = 0 && (t1401 == 0 && (t1402.toList == ([] : List UInt8)))) := by simpa using c65)); have c65n := c65b0; simp only [eq_nil_isEmpty] at c65n; clear c65; obtain rfl := Option.some.inj H
        go_wp2_with (first | ((with_reducible refine gc 53 rfl ?_); refine gl (some 60) #[.string a0] Tryd.func53 ?_; (with_reducible refine (expr_Read.calls k2 a0 t1394 t1395 _ ?side1 A32.out).mono ?_); (case side1 => exact Laid.below HLD.out qB); rintro e w104 ⟨v1396, rfl, ho0, hb⟩; refine ⟨_, rfl, ?_⟩; have HO1397 := Aside0.mk (Kd.R_lower ho0 (below_size qB)); replace BK1382 := kb gb1382 hb; replace BK1388 := kb gb1388 hb; replace HO_1389000 := rb HO_1389000 hb; replace HB := bst hb; (try clear hb); (try clear ho0); have := NB1388_1382.out; have := NB1382_1388.out; obtain ⟨_, _, _, _⟩ := cells2 BK1388.out; obtain ⟨Ao107, co107, eo107⟩ := Kd.R_slice HO1397.out; subst eo107; obtain ⟨Ao108, co108, eo108⟩ := Kd.R_slice HO_1389000.out; subst eo108) | ((with_reducible refine gc 54 rfl ?_); refine gl (some 68) #[.slice Ao107 t1394.length co107, .agg #[.slice Ao108 x1389000_2.length co108, .slice A2 l2.length c2]] Tryd.func54 ?_; (with_reducible refine (kind_Of.calls k2 _ _ t1394 _ _ x1389000_2 _ _ l2 t1398 t1399 _ ?side1 ?side2 ?side3 ?side4 ?side5 ?side6 ?side7 A34.out).mono ?_); (case side1 => exact cr HO1397); (case side2 => exact (Kd.R_reads' HO1397.out).2.1); (case side3 => exact cr HO_1389000); (case side4 => exact (Kd.R_reads' HO_1389000.out).2.1); (case side5 => exact qC); (case side6 => exact HC2.out); (case side7 => exact Laid.below HLD.out qB); rintro e w109 ⟨rfl, hb⟩; refine ⟨_, rfl, ?_⟩; replace BK1382 := kb gb1382 hb; replace BK1388 := kb gb1388 hb; replace HO_1389000 := rb HO_1389000 hb; replace HO1397 := rb HO1397 hb; replace HB := bst hb; (try clear hb); obtain ⟨_, _, _, _⟩ := cells2 BK1382.out) | ((with_reducible refine gc 61 rfl ?_); refine gl (some 76) #[.slice Ao107 t1394.length co107, .agg #[.slice A1_0 l1_0.length c1_0, .slice A1_1 l1_1.length c1_1]] Tryd.func61 ?_; (with_reducible refine (eval_Eval.calls k2 _ _ t1394 _ _ l1_0 _ _ l1_1 t1400 t1401 t1402 t1403 _ ?side1 ?side2 ?side3 ?side4 ?side5 ?side6 ?side7 A36.out).mono ?_); (case side1 => exact cr HO1397); (case side2 => exact (Kd.R_reads' HO1397.out).2.1); (case side3 => exact qC); (case side4 => exact HC1_0.out); (case side5 => exact qC); (case side6 => exact HC1_1.out); (case side7 => exact Laid.below HLD.out qB); rintro e w111 ⟨rfl, hb⟩; refine ⟨_, rfl, ?_⟩; replace BK1382 := kb gb1382 hb; replace BK1388 := kb gb1388 hb; replace HO_1389000 := rb HO_1389000 hb; replace HO1397 := rb HO1397 hb; replace HB := bst hb; (try clear hb)) | ((with_reducible refine gate_dst (N := 16) rfl ?_); (try (refine gate_guard (by rfl) ?_; dsimp only)); refine box_event ?hg (N := 16) ?hd (cs := #[.int .i64 0, .int .i64 0, .string (⟨#[]⟩ : ByteArray)]) (t := 103) ?hr ?_; (case hd => rfl); (case hg => rfl); (case hr => first | (go_simp; done) | (go_simp; rfl)); intro gb1404 hg w112 hbox hb; have BK1404 := Aside0.mk (hbox); have GW1404 := geS hg; have GE1404 := geS hg; have NB1382_1404 := neS gb1382 hg; have NB1404_1382 := neT gb1382 hg; have NB1388_1404 := neS gb1388 hg; have NB1404_1388 := neT gb1388 hg; replace BK1382 := kb gb1382 hb; replace BK1388 := kb gb1388 hb; replace HO_1389000 := rb HO_1389000 hb; replace HO1397 := rb HO1397 hb; replace HB := bst hb; clear hb hbox hg; have := NB1404_1382.out; have := NB1382_1404.out; have := NB1404_1388.out; have := NB1388_1404.out; obtain ⟨_, _, _, _, _, _⟩ := cells3 BK1404.out))
        go_ret; exact ⟨qR, qB⟩
       rw [if_neg c35] at H; have c35b0 := beq_eq_false_iff_ne.mpr c35; have c35b1 := bne_iff_ne.mpr c35; obtain rfl := Option.some.inj H
       go_wp2_with (first | ((with_reducible refine gc 53 rfl ?_); refine gl (some 60) #[.string a0] Tryd.func53 ?_; (with_reducible refine (expr_Read.calls k2 a0 t1394 t1395 _ ?side1 A32.out).mono ?_); (case side1 => exact Laid.below HLD.out qB); rintro e w116 ⟨v1396, rfl, ho0, hb⟩; refine ⟨_, rfl, ?_⟩; have HO1397 := Aside0.mk (Kd.R_lower ho0 (below_size qB)); replace BK1382 := kb gb1382 hb; replace BK1388 := kb gb1388 hb; replace HO_1389000 := rb HO_1389000 hb; replace HB := bst hb; (try clear hb); (try clear ho0); have := NB1388_1382.out; have := NB1382_1388.out; obtain ⟨_, _, _, _⟩ := cells2 BK1388.out; obtain ⟨Ao119, co119, eo119⟩ := Kd.R_slice HO1397.out; subst eo119; obtain ⟨Ao120, co120, eo120⟩ := Kd.R_slice HO_1389000.out; subst eo120) | ((with_reducible refine gc 54 rfl ?_); refine gl (some 68) #[.slice Ao119 t1394.length co119, .agg #[.slice Ao120 x1389000_2.length co120, .slice A2 l2.length c2]] Tryd.func54 ?_; (with_reducible refine (kind_Of.calls k2 _ _ t1394 _ _ x1389000_2 _ _ l2 t1398 t1399 _ ?side1 ?side2 ?side3 ?side4 ?side5 ?side6 ?side7 A34.out).mono ?_); (case side1 => exact cr HO1397); (case side2 => exact (Kd.R_reads' HO1397.out).2.1); (case side3 => exact cr HO_1389000); (case side4 => exact (Kd.R_reads' HO_1389000.out).2.1); (case side5 => exact qC); (case side6 => exact HC2.out); (case side7 => exact Laid.below HLD.out qB); rintro e w121 ⟨rfl, hb⟩; refine ⟨_, rfl, ?_⟩; replace BK1382 := kb gb1382 hb; replace BK1388 := kb gb1388 hb; replace HO_1389000 := rb HO_1389000 hb; replace HO1397 := rb HO1397 hb; replace HB := bst hb; (try clear hb)))
       go_ret; exact ⟨qR, qB⟩
      rw [if_neg c33] at H; have c33b0 := beq_eq_false_iff_ne.mpr c33; have c33b1 := bne_iff_ne.mpr c33; obtain rfl := Option.some.inj H
      go_wp2_with (first | ((with_reducible refine gc 53 rfl ?_); refine gl (some 60) #[.string a0] Tryd.func53 ?_; (with_reducible refine (expr_Read.calls k2 a0 t1394 t1395 _ ?side1 A32.out).mono ?_); (case side1 => exact Laid.below HLD.out qB); rintro e w122 ⟨v1396, rfl, ho0, hb⟩; refine ⟨_, rfl, ?_⟩; have HO1397 := Aside0.mk (Kd.R_lower ho0 (below_size qB)); replace BK1382 := kb gb1382 hb; replace BK1388 := kb gb1388 hb; replace HO_1389000 := rb HO_1389000 hb; replace HB := bst hb; (try clear hb); (try clear ho0)))
      go_ret; exact ⟨qR, qB⟩
 replace c5 := Bool.eq_false_iff.mpr c5
 subst c5
 rw [if_neg (show ¬ (false = true) by decide)] at H
 obtain rfl := Option.some.inj H
 go_enter Tryd.func18, Tryd.ntmps18
 go_wp2_with (first | ((with_reducible refine gate_dst (N := 4) rfl ?_); (try (refine gate_guard (by rfl) ?_; dsimp only)); refine box_event ?hg (N := 4) ?hd (cs := #[.slice A1_0 l1_0.length c1_0, .slice A1_1 l1_1.length c1_1]) (t := 98) ?hr ?_; (case hd => rfl); (case hg => rfl); (case hr => first | (go_simp; done) | (go_simp; rfl)); intro gb1382 hg w123 hbox hb; have BK1382 := Aside0.mk (hbox); have GW1382 := geS hg; have GE1382 := geS hg; replace HB := bst hb; clear hb hbox hg) | ((with_reducible refine gc 59 rfl ?_); refine gl (some 18) #[] Tryd.func59 ?_; (with_reducible refine (whirligiglaw05_anchor.calls k  false _ ?side1 A4.out).mono ?_); (case side1 => exact Laid.below HLD.out qB); rintro e w124 ⟨rfl, hb⟩; refine ⟨_, rfl, ?_⟩; replace BK1382 := kb gb1382 hb; replace HB := bst hb; (try clear hb)))
 go_ret
 exact ⟨qR, qB⟩
end Go.Proofs.YtbngfhlciebeeaaDoor.L
end
section
namespace Go.Proofs.YtbngfhlciebeeaaDoor.Sp
set_option linter.unusedVariables false
set_option linter.unusedSimpArgs false
open Go.RowKit Go.Proofs.YtbngfhlciebeeaaDoorW.PrintWords Go.Proofs.YtbngfhlciebeeaaDoorW.PrintMore Go.Proofs.YtbngfhlciebeeaaDoor.L
theorem typed_l0 (s : ByteArray) (hs : s.size ≤ 140737488351232) (cs : List S116) (ss st : List ByteArray) (hcs : cs.length ≤ 100) (hss : ss.length ≤ 100) (hst : st.length ≤ 100) (hv : ∀ x ∈ cs, ValOk x.f1 ∧ Opn.I64 x.f1.f1) : ∀ (d j : Nat), j ≤ cs.length → cs.length - j = d →
    Ev (fun k => whirligiglaw05_EvalTyped.l0 k s cs (cs.length : Int) (j : Int) cs ss ((cs.take j).map k118) st) true := by
  intro d
  induction d with
  | zero =>
    intro j hj hd
    refine Ev.succ ?_
    simp only [whirligiglaw05_EvalTyped.l0]
    rw [List.take_of_length_le (by omega)]
    refine Ev.neg (by omega) ?_
    obtain ⟨⟨x, e⟩, hR, hG⟩ := Read_ev s hs
    refine Ev.bind hR ?_
    by_cases he : e = 0
    · have G : GoodE x := hG he
      obtain ⟨kd, ke, at_, r1, r2, r3⟩ := Of_ev (vs := cs.map k118) (ss := st) G (by rw [List.length_map]; omega) (by omega)
      refine Ev.pos he (Ev.bind r3 ?_)
      by_cases gk : ke = 0
      · subst gk
        obtain ⟨v, err, hE, hn, ht⟩ := Eval_ev (ss := ss) (st := st) G (by omega) (by omega) (by omega) hv
        obtain ⟨t1, t2⟩ := ht kd at_ r1
        refine Ev.pos rfl (Ev.bind hE ?_)
        by_cases ge : err = 0
        · have hv1 := (hn.ok ge).1
          exact Ev.pos ge (Ev.pos (t1 ge) (Ev.bind_some (valRight_ok hv1) (Ev.some rfl)))
        · have hz := hn.no ge
          subst hz
          refine Ev.neg ge (Ev.pos (by show (0 == 0 && (0 == 0 && ((⟨#[]⟩ : ByteArray).toList == ([] : List UInt8)))) = true; rw [nil_toList]; rfl) ?_)
          by_cases e1 : err = 21
          · exact Ev.pos e1 (Ev.some rfl)
          · by_cases e2 : err = 22
            · exact Ev.neg e1 (Ev.pos e2 (Ev.some rfl))
            · refine Ev.neg e1 (Ev.neg e2 (Ev.some ?_))
              rcases t2 ge with h | h | h
              · exact absurd h e1
              · exact absurd h e2
              · rw [h]; rfl
      · exact Ev.neg gk (Ev.some rfl)
    · exact Ev.neg he (Ev.some rfl)
  | succ d ih =>
    intro j hj hd
    have hjl : j < cs.length := by omega
    have hi := ih (j + 1) (by omega) (by omega)
    rw [List.take_add_one, List.getElem?_eq_getElem hjl, List.map_append] at hi
    refine Ev.succ ?_
    simp only [whirligiglaw05_EvalTyped.l0]
    rw [rd116 hjl, up1 (by omega)]
    exact Ev.pos (by omega) (Ev.pos (by omega) (Ev.pos (by omega) (Ev.pos (by rw [List.length_map, List.length_take]; omega) hi)))
theorem EvalTyped_ev (s : ByteArray) (hs : s.size ≤ 140737488351232) (cs : List S116) (ss : List ByteArray) (hv : Opn.okCs cs ∧ Opn.okSs ss) (st : List ByteArray) (hst : Opn.okSs st) : Ev (fun k => whirligiglaw05_EvalTyped.f k s cs ss st) true := by
  unfold whirligiglaw05_EvalTyped.f
  refine Ev.bind anchor05_ev (Ev.pos rfl ?_)
  obtain ⟨⟨out, b⟩, hr, hb⟩ := cells05_is cs ss hv.1.1
  refine Ev.bind hr ?_
  have ht : Ev (fun k => whirligiglaw05_EvalTyped.j0 k s st true cs ss) true := Ev.succ (by simp only [whirligiglaw05_EvalTyped.j0]; exact Ev.pos trivial (Ev.some rfl))
  cases b with
  | false => exact Ev.neg (by simp) ht
  | true =>
    obtain ⟨h1, h2, h3, h4⟩ := hb rfl
    refine Ev.pos rfl ?_
    by_cases g : (s.size : Int) > 600
    · exact Ev.pos g ht
    refine Ev.neg g ?_
    by_cases g2 : (st.length : Int) > 100
    · rw [decide_eq_true g2]; exact ht
    rw [decide_eq_false g2]
    refine Ev.succ ?_
    simp only [whirligiglaw05_EvalTyped.j0]
    exact Ev.neg (by decide) (typed_l0 s hs cs ss st h2 h3 (by omega) (cells_both hv.1 h4) cs.length 0 (by omega) (by omega))
end Go.Proofs.YtbngfhlciebeeaaDoor.Sp
end
