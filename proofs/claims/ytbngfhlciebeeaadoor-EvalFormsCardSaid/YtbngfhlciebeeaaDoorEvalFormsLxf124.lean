/- Printed and hand-written steps towards the row (EvalForms), those that it reaches. -/
import Derived.Test.YtbngfhlciebeeaaDoorEvalFormsG4
import Derived.Test.YtbngfhlciebeeaaDoorEvalFormsG5
import Derived.Test.YtbngfhlciebeeaaDoorEvalFormsG18
import Derived.Test.YtbngfhlciebeeaaDoorEvalFormsG22
import Derived.Test.YtbngfhlciebeeaaDoorEvalFormsG28
import Derived.Test.YtbngfhlciebeeaaDoorEvalFormsG29
import Derived.Test.YtbngfhlciebeeaaDoorEvalFormsG30
import Derived.Test.YtbngfhlciebeeaaDoorEvalFormsLxf150
namespace Go.Proofs.YtbngfhlciebeeaaDoor.L
open Go.RowKit Go.Proofs.YtbngfhlciebeeaaDoorW.PrintWords Go.Proofs.YtbngfhlciebeeaaDoorW.PrintLast Go.Proofs.YtbngfhlciebeeaaDoorW.PrintMore
attribute [local go_sem] max2_int min2_int max_two min_two max_three min_three max_four min_four   -- for this text's walks alone
set_option linter.unusedVariables false
set_option linter.unusedSimpArgs false
attribute [local go_sem high] eqA103
mutual
def val_Reckon.j0 : Nat → Int → List (S103) → Int → Int → ByteArray → Int → Int → ByteArray → Option (Int × Int × ByteArray × Int)
 | 0, _, _, _, _, _, _, _, _ => none
 | k + 1, x0, x2, x1053000, x1053001, x1053002, x1055000, x1055001, x1055002 => (val_Result.f k x0 x1053000 x1055000).bind fun bt1056 => (if bt1056.2 = true then (if (x2.length : Int) = 1 then (if (x2.length : Int) = 0 then (val_Reckon.j1 k x0 false x1053000 x1053001 x1053002 x1055000 x1055001 x1055002) else (val_Reckon.j1 k x0 (decide (x0 ≤ 2)) x1053000 x1053001 x1053002 x1055000 x1055001 x1055002)) else (if x0 > 2 then (val_Reckon.j1 k x0 true x1053000 x1053001 x1053002 x1055000 x1055001 x1055002) else (if (x2.length : Int) = 0 then (val_Reckon.j1 k x0 false x1053000 x1053001 x1053002 x1055000 x1055001 x1055002) else (val_Reckon.j1 k x0 (decide (x0 ≤ 2)) x1053000 x1053001 x1053002 x1055000 x1055001 x1055002)))) else (val_Reckon.j1 k x0 true x1053000 x1053001 x1053002 x1055000 x1055001 x1055002))
def val_Reckon.j1 : Nat → Int → Bool → Int → Int → ByteArray → Int → Int → ByteArray → Option (Int × Int × ByteArray × Int)
 | 0, _, _, _, _, _, _, _, _ => none
 | k + 1, x0, x45, x1053000, x1053001, x1053002, x1055000, x1055001, x1055002 => if x45 = true then (some (0, 0, (⟨#[]⟩ : ByteArray), 20)) else (if x0 = 1 then ((val_Truth.f (x1053001 == 0)).bind fun bt1058 => (some (bt1058.1, bt1058.2.1, bt1058.2.2, 0))) else (if x0 = 2 then ((val_over.f (wrap64 (-x1053001)) (x1053001 == (-9223372036854775808))).bind fun bt1061 => (some (bt1061.1, bt1061.2.1, bt1061.2.2.1, bt1061.2.2.2))) else (if x0 = 8 then (val_Reckon.j2 k x0 x0 (x0 == 8) x1053000 x1053001 x1053002 x1055000 x1055001 x1055002) else (if x0 = 9 then (val_Reckon.j2 k x0 x0 (x0 == 9) x1053000 x1053001 x1053002 x1055000 x1055001 x1055002) else (if x0 = 10 then (val_Reckon.j2 k x0 x0 (x0 == 10) x1053000 x1053001 x1053002 x1055000 x1055001 x1055002) else (val_Reckon.j2 k x0 x0 (x0 == 11) x1053000 x1053001 x1053002 x1055000 x1055001 x1055002))))))
def val_Reckon.j2 : Nat → Int → Int → Bool → Int → Int → ByteArray → Int → Int → ByteArray → Option (Int × Int × ByteArray × Int)
 | 0, _, _, _, _, _, _, _, _, _ => none
 | k + 1, x0, x47, x65, x1053000, x1053001, x1053002, x1055000, x1055001, x1055002 => if x65 = true then ((val_compare.f k x1053000 x1053001 x1053002 x1055000 x1055001 x1055002).bind fun t1065 => ((val_order.f x0 t1065).bind fun bt1066 => (some (bt1066.1, bt1066.2.1, bt1066.2.2, 0)))) else (if x47 = 12 then ((val_Truth.f (x1053000 == x1055000 && (x1053001 == x1055001 && (x1053002.toList == x1055002.toList)))).bind fun bt1069 => (some (bt1069.1, bt1069.2.1, bt1069.2.2, 0))) else (if x47 = 13 then ((val_Truth.f (!(x1053000 == x1055000) || (!(x1053001 == x1055001) || (!(x1053002.toList == x1055002.toList))))).bind fun bt1072 => (some (bt1072.1, bt1072.2.1, bt1072.2.2, 0))) else (if x47 = 14 then (if x1053001 = 0 then ((val_Truth.f false).bind fun bt1075 => (some (bt1075.1, bt1075.2.1, bt1075.2.2, 0))) else ((val_Truth.f (x1055001 != 0)).bind fun bt1078 => (some (bt1078.1, bt1078.2.1, bt1078.2.2, 0)))) else (if x47 = 15 then (if x1053001 = 0 then ((val_Truth.f (x1055001 != 0)).bind fun bt1081 => (some (bt1081.1, bt1081.2.1, bt1081.2.2, 0))) else ((val_Truth.f true).bind fun bt1084 => (some (bt1084.1, bt1084.2.1, bt1084.2.2, 0)))) else (if x47 = 6 then (if x1053000 = 3 then ((val_join.f x1053002 x1055002).bind fun bt1087 => (some (bt1087.1, bt1087.2.1, bt1087.2.2.1, bt1087.2.2.2))) else ((val_number.f k x0 x1053001 x1055001).bind fun bt1091 => (some (bt1091.1, bt1091.2.1, bt1091.2.2.1, bt1091.2.2.2)))) else ((val_number.f k x0 x1053001 x1055001).bind fun bt1095 => (some (bt1095.1, bt1095.2.1, bt1095.2.2.1, bt1095.2.2.2))))))))
end
def val_Reckon.f (k : Nat) (a0 : Int) (a1_0 : Int) (a1_1 : Int) (a1_2 : ByteArray) (l2 : List (S103)) : Option (Int × Int × ByteArray × Int) := if (l2.length : Int) > 0 then (if 0 < (l2.length : Int) then (val_Reckon.j0 k a0 l2 a1_0 a1_1 a1_2 ((rd_T103 l2 0).f0) ((rd_T103 l2 0).f1) ((rd_T103 l2 0).f2)) else (none)) else (val_Reckon.j0 k a0 l2 a1_0 a1_1 a1_2 0 0 (⟨#[]⟩ : ByteArray))
set_option maxHeartbeats 8000000 in
set_option maxRecDepth 100000 in
theorem val_Reckon.calls (k : Nat) (a0 : Int) (a1_0 : Int) (a1_1 : Int) (a1_2 : ByteArray) (A2 : Option Addr) (c2 : Nat) (l2 : List (S103)) (r1 : Int) (r2 : Int) (r3 : ByteArray) (r4 : Int) (w : World) (hr2 : Kd.C k103 w A2 l2.length l2) (hc2 : l2.length ≤ c2) (h : val_Reckon.f k a0 a1_0 a1_1 a1_2 l2 = some (r1, r2, r3, r4)) :
  Calls Tryd.prog 124 #[.int .i64 a0, .agg #[.int .i64 a1_0, .int .i64 a1_1, .string a1_2], .slice A2 l2.length c2] w fun e w' => e = .returned (.tuple #[.agg #[.int .i64 r1, .int .i64 r2, .string r3], .int .i64 r4]) ∧ Below w.heap.size w w' := by
 have hu103 := Tryd.underlying103
 have HR2 := Aside0.mk hr2
 have HC2 := Aside0.mk hc2
 clear hr2 hc2
 have HB := Aside0.mk (Below.refl w.heap.size w)
 have H : (if (l2.length : Int) > 0 then (if 0 < (l2.length : Int) then (val_Reckon.j0 k a0 l2 a1_0 a1_1 a1_2 ((rd_T103 l2 0).f0) ((rd_T103 l2 0).f1) ((rd_T103 l2 0).f2)) else (none)) else (val_Reckon.j0 k a0 l2 a1_0 a1_1 a1_2 0 0 (⟨#[]⟩ : ByteArray))) = some (r1, r2, r3, r4) := h
 clear h
 have HC4 := Aside0.mk H
 clear H
 go_enter Tryd.func124, Tryd.ntmps124
 go_upto_if 13 with (first | ((with_reducible refine gate_dst (N := 4) rfl ?_); (try (refine gate_guard (by rfl) ?_; dsimp only)); refine box_event ?hg (N := 4) ?hd (cs := #[.int .i64 a1_0, .int .i64 a1_1, .string a1_2]) (t := 103) ?hr ?_; (case hd => rfl); (case hg => rfl); (case hr => first | (go_simp; done) | (go_simp; rfl)); intro gb1052 hg w5 hbox hb; have BK1052 := Aside0.mk (hbox); have GW1052 := geS hg; have GE1052 := geS hg; replace HB := bst hb; clear hb hbox hg) | ((with_reducible refine gate_dst (N := 6) rfl ?_); (try (refine gate_guard (by rfl) ?_; dsimp only)); refine box_event ?hg (N := 6) ?hd (cs := #[.int .i64 0, .int .i64 0, .string (⟨#[]⟩ : ByteArray)]) (t := 103) ?hr ?_; (case hd => rfl); (case hg => rfl); (case hr => first | (go_simp; done) | (go_simp; rfl)); intro gb1053 hg w6 hbox hb; have BK1053 := Aside0.mk (hbox); have GW1053 := geS hg; have GE1053 := geS hg; have NB1052_1053 := neS gb1052 hg; have NB1053_1052 := neT gb1052 hg; replace BK1052 := kb gb1052 hb; replace HB := bst hb; clear hb hbox hg) | ((with_reducible refine gate_dst (N := 8) rfl ?_); (try (refine gate_guard (by rfl) ?_; dsimp only)); refine box_event ?hg (N := 8) ?hd (cs := #[.int .i64 0, .int .i64 0, .string (⟨#[]⟩ : ByteArray)]) (t := 103) ?hr ?_; (case hd => rfl); (case hg => rfl); (case hr => first | (go_simp; done) | (go_simp; rfl)); intro gb1054 hg w7 hbox hb; have BK1054 := Aside0.mk (hbox); have GW1054 := geS hg; have GE1054 := geS hg; have NB1052_1054 := neS gb1052 hg; have NB1054_1052 := neT gb1052 hg; have NB1053_1054 := neS gb1053 hg; have NB1054_1053 := neT gb1053 hg; replace BK1052 := kb gb1052 hb; replace BK1053 := kb gb1053 hb; replace HB := bst hb; clear hb hbox hg))
 (try simp only [Act.put, List.setIfInBounds_toArray, List.set_cons_zero, List.set_cons_succ])
 go_cut [] (fun wc => ∃ (kq : Nat) (x1055000_3 : Int) (x1055001_3 : Int) (x1055002_3 : ByteArray), Aside0 (val_Reckon.j0 kq a0 l2 a1_0 a1_1 a1_2 x1055000_3 x1055001_3 x1055002_3 = some (r1, r2, r3, r4)) ∧ Aside0 (kq ≤ k) ∧ Aside0 (wc.heap[gb1052]? = some (.cells #[.int .i64 a1_0, .int .i64 a1_1, .string a1_2] 103 (0, 0))) ∧ Aside0 (wc.heap[gb1053]? = some (.cells #[.int .i64 0, .int .i64 0, .string (⟨#[]⟩ : ByteArray)] 103 (0, 0))) ∧ Aside0 (wc.heap[gb1054]? = some (.cells #[.int .i64 x1055000_3, .int .i64 x1055001_3, .string x1055002_3] 103 (0, 0))) ∧ Aside0 (Below w.heap.size w wc))
 case first =>
  have H := HC4.out
  clear HC4
  by_cases c8 : (l2.length : Int) > 0
  ·rw [if_pos c8] at H
   have c8b0 := decide_eq_true c8
   have c8b1 : decide (0 < l2.length) = true := decide_eq_true (by omega)
   clear c8
   (first | rw [c8b0] | (simp only [i64_w, i32_w]; rw [c8b0]) | rw [c8b1] | simp only [c8b1] | skip)
   by_cases c9 : 0 < (l2.length : Int)
   ·rw [if_pos c9] at H
    have c9b0 := decide_eq_true c9
    have c9b1 : decide (0 < l2.length) = true := decide_eq_true (by omega)
    clear c9
    have H' := Aside0.mk H
    clear H
    have p1055 : 0 ≤ (0 : Int) := (by omega)
    have q1055 : 0 < (l2.length : Int) := qD
    obtain ⟨ad1055, e1055, hx1055_0, hx1055_1, hx1055_2⟩ := at_T103 HR2.out 0 p1055 q1055
    cases e1055
    have qi1055 : (0 < l2.length) = True := eq_true (by omega)
    (try rw [show ((0 : Int)).toNat = 0 from rfl] at hx1055_0)
    (try rw [show 0 * 3 = 0 from rfl] at hx1055_0)
    (try rw [Addr.add_zero'] at hx1055_0)
    (try rw [show ((0 : Int)).toNat = 0 from rfl] at hx1055_1)
    (try rw [show 0 * 3 = 0 from rfl] at hx1055_1)
    (try rw [Addr.add_zero'] at hx1055_1)
    (try rw [show ((0 : Int)).toNat = 0 from rfl] at hx1055_2)
    (try rw [show 0 * 3 = 0 from rfl] at hx1055_2)
    (try rw [Addr.add_zero'] at hx1055_2)
    replace hx1055_0 := pw_cell_below HB.out hx1055_0
    replace hx1055_1 := pw_cell_below HB.out hx1055_1
    replace hx1055_2 := pw_cell_below HB.out hx1055_2
    replace p1055 := eq_true p1055
    replace q1055 := eq_true q1055
    have hnb10 := NB1054_1052.out
    have hnc10 := NB1052_1054.out
    have hnb11 := NB1054_1053.out
    have hnc11 := NB1053_1054.out
    obtain ⟨hcz12_0, hcz12_1, hcz12_2, hfz12_0, hfz12_1, hfz12_2⟩ := cells3 BK1054.out
    go_wp2
    go_meet
    case rel => exact ⟨_, ((rd_T103 l2 0).f0), ((rd_T103 l2 0).f1), ((rd_T103 l2 0).f2), H', ⟨by first | omega | exact Nat.le_refl _⟩, ⟨qK⟩, ⟨qK⟩, ⟨qP⟩, ⟨qB⟩⟩
   ·rw [if_neg c9] at H
    exact absurd H (by simp)
  ·rw [if_neg c8] at H
   have c8b0 := decide_eq_false c8
   have c8b1 : decide (0 < l2.length) = false := decide_eq_false (by omega)
   clear c8
   (first | rw [c8b0] | (simp only [i64_w, i32_w]; rw [c8b0]) | rw [c8b1] | simp only [c8b1] | skip)
   have H' := Aside0.mk H
   clear H
   go_wp2
   go_meet
   case rel => exact ⟨_, (0), (0), ((⟨#[]⟩ : ByteArray)), H', ⟨by first | omega | exact Nat.le_refl _⟩, ⟨qK⟩, ⟨qK⟩, ⟨qK⟩, ⟨qB⟩⟩
 case rest =>
  clear HC4
  try clear c1
  try clear p1
  try clear q1
  try clear hx1
  try clear qi1
  try clear c2
  try clear p2
  try clear c8
  try clear c8b0
  try clear c8b1
  try clear c9
  try clear c9b0
  try clear c9b1
  try clear c10
  try clear p10
  try clear q10
  try clear hx10
  try clear qi10
  try clear c11
  try clear c12
  try clear hcz12_0 hcz12_1 hcz12_2 hfz12_0 hfz12_1 hfz12_2
  try clear hx1055_0
  try clear hx1055_1
  try clear hx1055_2
  try clear p1055
  try clear q1055
  obtain ⟨kq, x1055000_3, x1055001_3, x1055002_3, HA, HJ3, BK1052, BK1053, BK1054, HB⟩ := hcut
  cases kq with
  | zero => exact absurd HA.out (by simp [val_Reckon.j0])
  | succ kj3 =>
   have H := HA.out
   clear HA
   simp only [val_Reckon.j0] at H
   replace H := Option.bind_eq_some_iff.mp H
   obtain ⟨⟨t1056, t1057⟩, A130, H⟩ := H
   (try dsimp -simprocs only at H)
   have A13 := Aside0.mk A130
   clear A130
   have HC14 := Aside0.mk H
   clear H
   have hnb15 := NB1052_1053.out
   have hnc15 := NB1053_1052.out
   have hnb16 := NB1052_1054.out
   have hnc16 := NB1054_1052.out
   obtain ⟨hcz17_0, hcz17_1, hcz17_2, hfz17_0, hfz17_1, hfz17_2⟩ := cells3 BK1052.out
   have hnb18 := NB1054_1053.out
   have hnc18 := NB1053_1054.out
   obtain ⟨hcz19_0, hcz19_1, hcz19_2, hfz19_0, hfz19_1, hfz19_2⟩ := cells3 BK1054.out
   go_upto_region 5 with (first | ((with_reducible refine gc 118 rfl ?_); refine gl (some 23) #[.int .i64 a0, .int .i64 a1_0, .int .i64 x1055000_3] Tryd.func118 ?_; (with_reducible refine (val_Result.calls kj3 a0 a1_0 x1055000_3 t1056 t1057 _ A13.out).mono ?_); rintro e w' ⟨rfl, ⟨nd, rfl⟩⟩; refine ⟨_, rfl, ?_⟩))
   (try simp only [Act.put, List.setIfInBounds_toArray, List.set_cons_zero, List.set_cons_succ])
   go_cut [45] (fun v45 wc => ∃ (kq : Nat) (x45_13 : Bool), v45 = .bool x45_13 ∧ Aside0 (val_Reckon.j1 kq a0 x45_13 a1_0 a1_1 a1_2 x1055000_3 x1055001_3 x1055002_3 = some (r1, r2, r3, r4)) ∧ Aside0 (kq ≤ kj3) ∧ Aside0 (wc.heap[gb1052]? = some (.cells #[.int .i64 a1_0, .int .i64 a1_1, .string a1_2] 103 (0, 0))) ∧ Aside0 (wc.heap[gb1053]? = some (.cells #[.int .i64 0, .int .i64 0, .string (⟨#[]⟩ : ByteArray)] 103 (0, 0))) ∧ Aside0 (wc.heap[gb1054]? = some (.cells #[.int .i64 x1055000_3, .int .i64 x1055001_3, .string x1055002_3] 103 (0, 0))) ∧ Aside0 (Below w.heap.size w wc))
   case first =>
    have H := HC14.out
    clear HC14
    by_cases c20 : t1057 = true
    ·subst c20
     rw [if_pos rfl] at H
     by_cases c21 : (l2.length : Int) = 1
     ·rw [if_pos c21] at H
      have c21b0 := beq_iff_eq.mpr c21
      have c21b1 := bne_eq_false_iff_eq.mpr c21
      clear c21
      (first | rw [c21b0] | (simp only [i64_w, i32_w]; rw [c21b0]) | skip)
      by_cases c22 : (l2.length : Int) = 0
      ·rw [if_pos c22] at H
       have c22b0 := beq_iff_eq.mpr c22
       have c22b1 := bne_eq_false_iff_eq.mpr c22
       clear c22
       have H' := Aside0.mk H
       clear H
       go_wp2
       go_meet
       case rel => exact ⟨_, (false), (by first | rfl | (simp; done) | (simp [*]; done)), H', ⟨by have := HJ3.out; first | omega | exact Nat.le_refl _⟩, ⟨qK⟩, ⟨qK⟩, ⟨qK⟩, ⟨qB⟩⟩
      ·rw [if_neg c22] at H
       have c22b0 := beq_eq_false_iff_ne.mpr c22
       have c22b1 := bne_iff_ne.mpr c22
       have c22b2 : ¬ (l2 = []) := fun h_ => c22 (by rw [h_]; rfl)
       have H' := Aside0.mk H
       clear H
       go_wp2
       go_meet
       case rel => exact ⟨_, (decide (a0 ≤ 2)), (by first | rfl | (simp; done) | (simp [*]; done)), H', ⟨by have := HJ3.out; first | omega | exact Nat.le_refl _⟩, ⟨qK⟩, ⟨qK⟩, ⟨qK⟩, ⟨qB⟩⟩
     ·rw [if_neg c21] at H
      have c21b0 := beq_eq_false_iff_ne.mpr c21
      have c21b1 := bne_iff_ne.mpr c21
      (first | rw [c21b0] | (simp only [i64_w, i32_w]; rw [c21b0]) | skip)
      replace H := iD H
      rcases H with ⟨c23b0, H⟩ | ⟨c23b0, H⟩
      ·have H' := Aside0.mk H
       clear H
       go_wp2
       go_meet
       case rel => exact ⟨_, (true), (by first | rfl | (simp; done) | (simp [*]; done)), H', ⟨by have := HJ3.out; first | omega | exact Nat.le_refl _⟩, ⟨qK⟩, ⟨qK⟩, ⟨qK⟩, ⟨qB⟩⟩
      ·by_cases c24 : (l2.length : Int) = 0
       ·rw [if_pos c24] at H
        have c24b0 := beq_iff_eq.mpr c24
        have c24b1 := bne_eq_false_iff_eq.mpr c24
        clear c24
        have H' := Aside0.mk H
        clear H
        go_wp2
        go_meet
        case rel => exact ⟨_, (false), (by first | rfl | (simp; done) | (simp [*]; done)), H', ⟨by have := HJ3.out; first | omega | exact Nat.le_refl _⟩, ⟨qK⟩, ⟨qK⟩, ⟨qK⟩, ⟨qB⟩⟩
       ·rw [if_neg c24] at H
        have c24b0 := beq_eq_false_iff_ne.mpr c24
        have c24b1 := bne_iff_ne.mpr c24
        have c24b2 : ¬ (l2 = []) := fun h_ => c24 (by rw [h_]; rfl)
        have H' := Aside0.mk H
        clear H
        go_wp2
        go_meet
        case rel => exact ⟨_, (decide (a0 ≤ 2)), (by first | rfl | (simp; done) | (simp [*]; done)), H', ⟨by have := HJ3.out; first | omega | exact Nat.le_refl _⟩, ⟨qK⟩, ⟨qK⟩, ⟨qK⟩, ⟨qB⟩⟩
    ·replace c20 := Bool.eq_false_iff.mpr c20
     subst c20
     rw [if_neg (show ¬ (false = true) by decide)] at H
     have H' := Aside0.mk H
     clear H
     go_wp2
     go_meet
     case rel => exact ⟨_, (true), (by first | rfl | (simp; done) | (simp [*]; done)), H', ⟨by have := HJ3.out; first | omega | exact Nat.le_refl _⟩, ⟨qK⟩, ⟨qK⟩, ⟨qK⟩, ⟨qB⟩⟩
   case rest =>
    clear HC14
    try clear c1
    try clear p1 p1
    try clear q1 q1
    try clear hx1
    try clear qi1
    try clear c2
    try clear p2 p2
    try clear c8
    try clear c8b0
    try clear c8b1
    try clear c9
    try clear c9b0
    try clear c9b1
    try clear c10
    try clear p10 p10
    try clear q10 q10
    try clear hx10
    try clear qi10
    try clear c11
    try clear c12
    try clear c15
    try clear c16
    try clear c18
    try clear c20
    try clear c21
    try clear c21b0
    try clear c21b1
    try clear c22
    try clear c22b0
    try clear c22b1
    try clear c22b2
    try clear c23
    try clear c23b0
    try clear c24
    try clear c24b0
    try clear c24b1
    try clear c24b2
    try clear hcz12_0 hcz12_1 hcz12_2 hfz12_0 hfz12_1 hfz12_2
    try clear hcz17_0 hcz17_1 hcz17_2 hfz17_0 hfz17_1 hfz17_2
    try clear hcz19_0 hcz19_1 hcz19_2 hfz19_0 hfz19_1 hfz19_2
    try clear hx1055_0
    try clear hx1055_1
    try clear hx1055_2
    try clear p1055
    try clear q1055
    obtain ⟨kq, x45_13, rfl, HA, HJ13, BK1052, BK1053, BK1054, HB⟩ := hcut
    cases kq with
    | zero => exact absurd HA.out (by simp [val_Reckon.j1])
    | succ kj13 =>
     have H := HA.out
     clear HA
     simp only [val_Reckon.j1] at H
     by_cases c25 : x45_13 = true
     ·subst c25
      rw [if_pos rfl] at H
      simp only [Option.some.injEq, Prod.mk.injEq] at H
      obtain ⟨rfl, rfl, rfl, rfl⟩ := H
      have hnb26 := NB1053_1052.out
      have hnc26 := NB1052_1053.out
      have hnb27 := NB1053_1054.out
      have hnc27 := NB1054_1053.out
      obtain ⟨hcz28_0, hcz28_1, hcz28_2, hfz28_0, hfz28_1, hfz28_2⟩ := cells3 BK1053.out
      go_wp2
      refine bodyPost_ret (results_ct rfl _ _ gb1053 103 #[.int .i64 0, .int .i64 0, .string (⟨#[]⟩ : ByteArray)] (0, 0) _ rfl qP Tryd.underlying103 rfl (by kernel_rfl)) rfl ?_
      exact ⟨qR, qB⟩
     ·replace c25 := Bool.eq_false_iff.mpr c25
      subst c25
      rw [if_neg (show ¬ (false = true) by decide)] at H
      by_cases c29 : a0 = 1
      ·rw [if_pos c29] at H
       have c29b0 := beq_iff_eq.mpr c29
       have c29b1 := bne_eq_false_iff_eq.mpr c29
       clear c29
       replace H := Option.bind_eq_some_iff.mp H
       obtain ⟨⟨t1058, t1059, t1060⟩, A300, H⟩ := H
       (try dsimp -simprocs only at H)
       have A30 := Aside0.mk A300
       clear A300
       simp only [Option.some.injEq, Prod.mk.injEq] at H
       obtain ⟨rfl, rfl, rfl, rfl⟩ := H
       have hnb31 := NB1052_1053.out
       have hnc31 := NB1053_1052.out
       have hnb32 := NB1052_1054.out
       have hnc32 := NB1054_1052.out
       obtain ⟨hcz33_0, hcz33_1, hcz33_2, hfz33_0, hfz33_1, hfz33_2⟩ := cells3 BK1052.out
       go_wp2_with (first | ((with_reducible refine gc 65 rfl ?_); refine gl (some 53) #[.bool (a1_1 == 0)] Tryd.func65 ?_; (with_reducible refine (val_Truth.calls (a1_1 == 0) t1058 t1059 t1060 _ A30.out).mono ?_); rintro e w34 ⟨rfl, hb⟩; refine ⟨_, rfl, ?_⟩; replace BK1052 := kb gb1052 hb; replace BK1053 := kb gb1053 hb; replace BK1054 := kb gb1054 hb; replace HB := bst hb; (try clear hb); have hnb35 := NB1053_1054.out; have hnc35 := NB1054_1053.out; obtain ⟨hcz36_0, hcz36_1, hcz36_2, hfz36_0, hfz36_1, hfz36_2⟩ := cells3 BK1053.out))
       refine bodyPost_ret (results_ct rfl _ _ gb1053 103 #[.int .i64 t1058, .int .i64 t1059, .string t1060] (0, 0) _ rfl qP Tryd.underlying103 rfl (by kernel_rfl)) rfl ?_
       exact ⟨qR, qB⟩
      ·rw [if_neg c29] at H
       have c29b0 := beq_eq_false_iff_ne.mpr c29
       have c29b1 := bne_iff_ne.mpr c29
       by_cases c37 : a0 = 2
       ·rw [if_pos c37] at H
        have c37b0 := beq_iff_eq.mpr c37
        have c37b1 := bne_eq_false_iff_eq.mpr c37
        clear c37
        replace H := Option.bind_eq_some_iff.mp H
        obtain ⟨⟨t1061, t1062, t1063, t1064⟩, A380, H⟩ := H
        (try dsimp -simprocs only at H)
        have A38 := Aside0.mk A380
        clear A380
        simp only [Option.some.injEq, Prod.mk.injEq] at H
        obtain ⟨rfl, rfl, rfl, rfl⟩ := H
        have hnb39 := NB1052_1053.out
        have hnc39 := NB1053_1052.out
        have hnb40 := NB1052_1054.out
        have hnc40 := NB1054_1052.out
        obtain ⟨hcz41_0, hcz41_1, hcz41_2, hfz41_0, hfz41_1, hfz41_2⟩ := cells3 BK1052.out
        go_wp2_with (first | ((with_reducible refine gc 146 rfl ?_); refine gl (some 62) #[.int .i64 (wrap64 (-a1_1)), .bool (a1_1 == (-9223372036854775808))] Tryd.func146 ?_; (with_reducible refine (val_over.calls (wrap64 (-a1_1)) (a1_1 == (-9223372036854775808)) t1061 t1062 t1063 t1064 _ A38.out).mono ?_); rintro e w42 ⟨rfl, hb⟩; refine ⟨_, rfl, ?_⟩; replace BK1052 := kb gb1052 hb; replace BK1053 := kb gb1053 hb; replace BK1054 := kb gb1054 hb; replace HB := bst hb; (try clear hb); have hnb43 := NB1053_1054.out; have hnc43 := NB1054_1053.out; obtain ⟨hcz44_0, hcz44_1, hcz44_2, hfz44_0, hfz44_1, hfz44_2⟩ := cells3 BK1053.out))
        refine bodyPost_ret (results_ct rfl _ _ gb1053 103 #[.int .i64 t1061, .int .i64 t1062, .string t1063] (0, 0) _ rfl qP Tryd.underlying103 rfl (by kernel_rfl)) rfl ?_
        exact ⟨qR, qB⟩
       ·rw [if_neg c37] at H
        have c37b0 := beq_eq_false_iff_ne.mpr c37
        have c37b1 := bne_iff_ne.mpr c37
        have HC45 := Aside0.mk H
        clear H
        go_upto_if 65 with (fail)
        go_cut [65] (fun v65 wc => ∃ (kq : Nat) (x65_44 : Bool), v65 = .bool x65_44 ∧ Aside0 (val_Reckon.j2 kq a0 a0 x65_44 a1_0 a1_1 a1_2 x1055000_3 x1055001_3 x1055002_3 = some (r1, r2, r3, r4)) ∧ Aside0 (kq ≤ kj13) ∧ Aside0 (wc.heap[gb1052]? = some (.cells #[.int .i64 a1_0, .int .i64 a1_1, .string a1_2] 103 (0, 0))) ∧ Aside0 (wc.heap[gb1053]? = some (.cells #[.int .i64 0, .int .i64 0, .string (⟨#[]⟩ : ByteArray)] 103 (0, 0))) ∧ Aside0 (wc.heap[gb1054]? = some (.cells #[.int .i64 x1055000_3, .int .i64 x1055001_3, .string x1055002_3] 103 (0, 0))) ∧ Aside0 (Below w.heap.size w wc))
        case first =>
         have H := HC45.out
         clear HC45
         by_cases c46 : a0 = 8
         ·rw [if_pos c46] at H
          have c46b0 := beq_iff_eq.mpr c46
          have c46b1 := bne_eq_false_iff_eq.mpr c46
          clear c46
          (first | rw [c46b0] | (simp only [i64_w, i32_w]; rw [c46b0]) | skip)
          have H' := Aside0.mk H
          clear H
          go_wp2
          go_meet
          case rel => exact ⟨_, ((a0 == 8)), (by first | rfl | (simp; done) | (simp [*]; done)), H', ⟨by have := HJ3.out; have := HJ13.out; first | omega | exact Nat.le_refl _⟩, ⟨qK⟩, ⟨qK⟩, ⟨qK⟩, ⟨qB⟩⟩
         ·rw [if_neg c46] at H
          have c46b0 := beq_eq_false_iff_ne.mpr c46
          have c46b1 := bne_iff_ne.mpr c46
          (first | rw [c46b0] | (simp only [i64_w, i32_w]; rw [c46b0]) | skip)
          by_cases c47 : a0 = 9
          ·rw [if_pos c47] at H
           have c47b0 := beq_iff_eq.mpr c47
           have c47b1 := bne_eq_false_iff_eq.mpr c47
           clear c47
           have H' := Aside0.mk H
           clear H
           go_wp2
           go_meet
           case rel => exact ⟨_, ((a0 == 9)), (by first | rfl | (simp; done) | (simp [*]; done)), H', ⟨by have := HJ3.out; have := HJ13.out; first | omega | exact Nat.le_refl _⟩, ⟨qK⟩, ⟨qK⟩, ⟨qK⟩, ⟨qB⟩⟩
          ·rw [if_neg c47] at H
           have c47b0 := beq_eq_false_iff_ne.mpr c47
           have c47b1 := bne_iff_ne.mpr c47
           by_cases c48 : a0 = 10
           ·rw [if_pos c48] at H
            have c48b0 := beq_iff_eq.mpr c48
            have c48b1 := bne_eq_false_iff_eq.mpr c48
            clear c48
            have H' := Aside0.mk H
            clear H
            go_wp2
            go_meet
            case rel => exact ⟨_, ((a0 == 10)), (by first | rfl | (simp; done) | (simp [*]; done)), H', ⟨by have := HJ3.out; have := HJ13.out; first | omega | exact Nat.le_refl _⟩, ⟨qK⟩, ⟨qK⟩, ⟨qK⟩, ⟨qB⟩⟩
           ·rw [if_neg c48] at H
            have c48b0 := beq_eq_false_iff_ne.mpr c48
            have c48b1 := bne_iff_ne.mpr c48
            have H' := Aside0.mk H
            clear H
            go_wp2
            go_meet
            case rel => exact ⟨_, ((a0 == 11)), (by first | rfl | (simp; done) | (simp [*]; done)), H', ⟨by have := HJ3.out; have := HJ13.out; first | omega | exact Nat.le_refl _⟩, ⟨qK⟩, ⟨qK⟩, ⟨qK⟩, ⟨qB⟩⟩
        case rest =>
         clear HC45
         try clear c1
         try clear p1 p1
         try clear q1 q1
         try clear hx1
         try clear qi1
         try clear c2
         try clear p2 p2
         try clear c3
         try clear c4
         try clear c6
         try clear p6
         try clear c8
         try clear c8b0
         try clear c8b1
         try clear c9
         try clear c9b0
         try clear c9b1
         try clear c10
         try clear p10 p10
         try clear q10 q10
         try clear hx10
         try clear qi10
         try clear c11
         try clear c12
         try clear c14
         try clear c15
         try clear c16
         try clear c18
         try clear c20
         try clear c21
         try clear c21b0
         try clear c21b1
         try clear c22
         try clear c22b0
         try clear c22b1
         try clear c22b2
         try clear c23
         try clear c23b0
         try clear c24
         try clear c24b0
         try clear c24b1
         try clear c24b2
         try clear c25
         try clear c26
         try clear c27
         try clear c29
         try clear c29b0
         try clear c29b1
         try clear c31
         try clear c32
         try clear c35
         try clear c37
         try clear c37b0
         try clear c37b1
         try clear c39
         try clear c40
         try clear c43
         try clear c46
         try clear c46b0
         try clear c46b1
         try clear c47
         try clear c47b0
         try clear c47b1
         try clear c48
         try clear c48b0
         try clear c48b1
         try clear hcz12_0 hcz12_1 hcz12_2 hfz12_0 hfz12_1 hfz12_2
         try clear hcz17_0 hcz17_1 hcz17_2 hfz17_0 hfz17_1 hfz17_2
         try clear hcz19_0 hcz19_1 hcz19_2 hfz19_0 hfz19_1 hfz19_2
         try clear hcz28_0 hcz28_1 hcz28_2 hfz28_0 hfz28_1 hfz28_2
         try clear hcz33_0 hcz33_1 hcz33_2 hfz33_0 hfz33_1 hfz33_2
         try clear hcz36_0 hcz36_1 hcz36_2 hfz36_0 hfz36_1 hfz36_2
         try clear hcz41_0 hcz41_1 hcz41_2 hfz41_0 hfz41_1 hfz41_2
         try clear hcz44_0 hcz44_1 hcz44_2 hfz44_0 hfz44_1 hfz44_2
         try clear hx1055_0
         try clear hx1055_1
         try clear hx1055_2
         try clear p1055
         try clear q1055
         obtain ⟨kq, x65_44, rfl, HA, HJ44, BK1052, BK1053, BK1054, HB⟩ := hcut
         cases kq with
         | zero => exact absurd HA.out (by simp [val_Reckon.j2])
         | succ kj44 =>
          have H := HA.out
          clear HA
          simp only [val_Reckon.j2] at H
          by_cases c49 : x65_44 = true
          ·subst c49
           rw [if_pos rfl] at H
           replace H := Option.bind_eq_some_iff.mp H
           obtain ⟨t1065, A500, H⟩ := H
           (try dsimp -simprocs only at H)
           have A50 := Aside0.mk A500
           clear A500
           replace H := Option.bind_eq_some_iff.mp H
           obtain ⟨⟨t1066, t1067, t1068⟩, A510, H⟩ := H
           (try dsimp -simprocs only at H)
           have A51 := Aside0.mk A510
           clear A510
           simp only [Option.some.injEq, Prod.mk.injEq] at H
           obtain ⟨rfl, rfl, rfl, rfl⟩ := H
           have hnb52 := NB1052_1053.out
           have hnc52 := NB1053_1052.out
           have hnb53 := NB1052_1054.out
           have hnc53 := NB1054_1052.out
           obtain ⟨hcz54_0, hcz54_1, hcz54_2, hfz54_0, hfz54_1, hfz54_2⟩ := cells3 BK1052.out
           have hnb55 := NB1054_1053.out
           have hnc55 := NB1053_1054.out
           obtain ⟨hcz56_0, hcz56_1, hcz56_2, hfz56_0, hfz56_1, hfz56_2⟩ := cells3 BK1054.out
           go_wp2_with (first | ((with_reducible refine gc 148 rfl ?_); refine gl (some 73) #[.agg #[.int .i64 a1_0, .int .i64 a1_1, .string a1_2], .agg #[.int .i64 x1055000_3, .int .i64 x1055001_3, .string x1055002_3]] Tryd.func148 ?_; (with_reducible refine (val_compare.calls kj44 a1_0 a1_1 a1_2 x1055000_3 x1055001_3 x1055002_3 t1065 _ A50.out).mono ?_); rintro e w57 ⟨rfl, hb⟩; refine ⟨_, rfl, ?_⟩; replace BK1052 := kb gb1052 hb; replace BK1053 := kb gb1053 hb; replace BK1054 := kb gb1054 hb; replace HB := bst hb; (try clear hb)) | ((with_reducible refine gc 147 rfl ?_); refine gl (some 74) #[.int .i64 a0, .int .i64 t1065] Tryd.func147 ?_; (with_reducible refine (val_order.calls a0 t1065 t1066 t1067 t1068 _ A51.out).mono ?_); rintro e w58 ⟨rfl, hb⟩; refine ⟨_, rfl, ?_⟩; replace BK1052 := kb gb1052 hb; replace BK1053 := kb gb1053 hb; replace BK1054 := kb gb1054 hb; replace HB := bst hb; (try clear hb); obtain ⟨hcz59_0, hcz59_1, hcz59_2, hfz59_0, hfz59_1, hfz59_2⟩ := cells3 BK1053.out))
           refine bodyPost_ret (results_ct rfl _ _ gb1053 103 #[.int .i64 t1066, .int .i64 t1067, .string t1068] (0, 0) _ rfl qP Tryd.underlying103 rfl (by kernel_rfl)) rfl ?_
           exact ⟨qR, qB⟩
          ·replace c49 := Bool.eq_false_iff.mpr c49
           subst c49
           rw [if_neg (show ¬ (false = true) by decide)] at H
           by_cases c60 : a0 = 12
           ·rw [if_pos c60] at H
            have c60b0 := beq_iff_eq.mpr c60
            have c60b1 := bne_eq_false_iff_eq.mpr c60
            clear c60
            replace H := Option.bind_eq_some_iff.mp H
            obtain ⟨⟨t1069, t1070, t1071⟩, A610, H⟩ := H
            (try dsimp -simprocs only at H)
            have A61 := Aside0.mk A610
            clear A610
            simp only [Option.some.injEq, Prod.mk.injEq] at H
            obtain ⟨rfl, rfl, rfl, rfl⟩ := H
            have hnb62 := NB1052_1053.out
            have hnc62 := NB1053_1052.out
            have hnb63 := NB1052_1054.out
            have hnc63 := NB1054_1052.out
            obtain ⟨hcz64_0, hcz64_1, hcz64_2, hfz64_0, hfz64_1, hfz64_2⟩ := cells3 BK1052.out
            have hnb65 := NB1054_1053.out
            have hnc65 := NB1053_1054.out
            obtain ⟨hcz66_0, hcz66_1, hcz66_2, hfz66_0, hfz66_1, hfz66_2⟩ := cells3 BK1054.out
            go_wp2_with (first | ((with_reducible refine gc 65 rfl ?_); refine gl (some 80) #[.bool (a1_0 == x1055000_3 && (a1_1 == x1055001_3 && (a1_2.toList == x1055002_3.toList)))] Tryd.func65 ?_; (with_reducible refine (val_Truth.calls (a1_0 == x1055000_3 && (a1_1 == x1055001_3 && (a1_2.toList == x1055002_3.toList))) t1069 t1070 t1071 _ A61.out).mono ?_); rintro e w67 ⟨rfl, hb⟩; refine ⟨_, rfl, ?_⟩; replace BK1052 := kb gb1052 hb; replace BK1053 := kb gb1053 hb; replace BK1054 := kb gb1054 hb; replace HB := bst hb; (try clear hb); obtain ⟨hcz68_0, hcz68_1, hcz68_2, hfz68_0, hfz68_1, hfz68_2⟩ := cells3 BK1053.out))
            refine bodyPost_ret (results_ct rfl _ _ gb1053 103 #[.int .i64 t1069, .int .i64 t1070, .string t1071] (0, 0) _ rfl qP Tryd.underlying103 rfl (by kernel_rfl)) rfl ?_
            exact ⟨qR, qB⟩
           ·rw [if_neg c60] at H
            have c60b0 := beq_eq_false_iff_ne.mpr c60
            have c60b1 := bne_iff_ne.mpr c60
            by_cases c69 : a0 = 13
            ·rw [if_pos c69] at H
             have c69b0 := beq_iff_eq.mpr c69
             have c69b1 := bne_eq_false_iff_eq.mpr c69
             clear c69
             replace H := Option.bind_eq_some_iff.mp H
             obtain ⟨⟨t1072, t1073, t1074⟩, A700, H⟩ := H
             (try dsimp -simprocs only at H)
             have A70 := Aside0.mk A700
             clear A700
             simp only [Option.some.injEq, Prod.mk.injEq] at H
             obtain ⟨rfl, rfl, rfl, rfl⟩ := H
             have hnb71 := NB1052_1053.out
             have hnc71 := NB1053_1052.out
             have hnb72 := NB1052_1054.out
             have hnc72 := NB1054_1052.out
             obtain ⟨hcz73_0, hcz73_1, hcz73_2, hfz73_0, hfz73_1, hfz73_2⟩ := cells3 BK1052.out
             have hnb74 := NB1054_1053.out
             have hnc74 := NB1053_1054.out
             obtain ⟨hcz75_0, hcz75_1, hcz75_2, hfz75_0, hfz75_1, hfz75_2⟩ := cells3 BK1054.out
             go_wp2_with (first | ((with_reducible refine gc 65 rfl ?_); refine gl (some 86) #[.bool (!(a1_0 == x1055000_3) || (!(a1_1 == x1055001_3) || (!(a1_2.toList == x1055002_3.toList))))] Tryd.func65 ?_; (with_reducible refine (val_Truth.calls (!(a1_0 == x1055000_3) || (!(a1_1 == x1055001_3) || (!(a1_2.toList == x1055002_3.toList)))) t1072 t1073 t1074 _ A70.out).mono ?_); rintro e w76 ⟨rfl, hb⟩; refine ⟨_, rfl, ?_⟩; replace BK1052 := kb gb1052 hb; replace BK1053 := kb gb1053 hb; replace BK1054 := kb gb1054 hb; replace HB := bst hb; (try clear hb); obtain ⟨hcz77_0, hcz77_1, hcz77_2, hfz77_0, hfz77_1, hfz77_2⟩ := cells3 BK1053.out))
             refine bodyPost_ret (results_ct rfl _ _ gb1053 103 #[.int .i64 t1072, .int .i64 t1073, .string t1074] (0, 0) _ rfl qP Tryd.underlying103 rfl (by kernel_rfl)) rfl ?_
             exact ⟨qR, qB⟩
            ·rw [if_neg c69] at H
             have c69b0 := beq_eq_false_iff_ne.mpr c69
             have c69b1 := bne_iff_ne.mpr c69
             by_cases c78 : a0 = 14
             ·rw [if_pos c78] at H
              have c78b0 := beq_iff_eq.mpr c78
              have c78b1 := bne_eq_false_iff_eq.mpr c78
              clear c78
              by_cases c79 : a1_1 = 0
              ·rw [if_pos c79] at H
               have c79b0 := beq_iff_eq.mpr c79
               have c79b1 := bne_eq_false_iff_eq.mpr c79
               clear c79
               replace H := Option.bind_eq_some_iff.mp H
               obtain ⟨⟨t1075, t1076, t1077⟩, A800, H⟩ := H
               (try dsimp -simprocs only at H)
               have A80 := Aside0.mk A800
               clear A800
               simp only [Option.some.injEq, Prod.mk.injEq] at H
               obtain ⟨rfl, rfl, rfl, rfl⟩ := H
               have hnb81 := NB1052_1053.out
               have hnc81 := NB1053_1052.out
               have hnb82 := NB1052_1054.out
               have hnc82 := NB1054_1052.out
               obtain ⟨hcz83_0, hcz83_1, hcz83_2, hfz83_0, hfz83_1, hfz83_2⟩ := cells3 BK1052.out
               go_wp2_with (first | ((with_reducible refine gc 65 rfl ?_); refine gl (some 97) #[.bool false] Tryd.func65 ?_; (with_reducible refine (val_Truth.calls false t1075 t1076 t1077 _ A80.out).mono ?_); rintro e w84 ⟨rfl, hb⟩; refine ⟨_, rfl, ?_⟩; replace BK1052 := kb gb1052 hb; replace BK1053 := kb gb1053 hb; replace BK1054 := kb gb1054 hb; replace HB := bst hb; (try clear hb); have hnb85 := NB1053_1054.out; have hnc85 := NB1054_1053.out; obtain ⟨hcz86_0, hcz86_1, hcz86_2, hfz86_0, hfz86_1, hfz86_2⟩ := cells3 BK1053.out))
               refine bodyPost_ret (results_ct rfl _ _ gb1053 103 #[.int .i64 t1075, .int .i64 t1076, .string t1077] (0, 0) _ rfl qP Tryd.underlying103 rfl (by kernel_rfl)) rfl ?_
               exact ⟨qR, qB⟩
              ·rw [if_neg c79] at H
               have c79b0 := beq_eq_false_iff_ne.mpr c79
               have c79b1 := bne_iff_ne.mpr c79
               replace H := Option.bind_eq_some_iff.mp H
               obtain ⟨⟨t1078, t1079, t1080⟩, A870, H⟩ := H
               (try dsimp -simprocs only at H)
               have A87 := Aside0.mk A870
               clear A870
               simp only [Option.some.injEq, Prod.mk.injEq] at H
               obtain ⟨rfl, rfl, rfl, rfl⟩ := H
               have hnb88 := NB1052_1053.out
               have hnc88 := NB1053_1052.out
               have hnb89 := NB1052_1054.out
               have hnc89 := NB1054_1052.out
               obtain ⟨hcz90_0, hcz90_1, hcz90_2, hfz90_0, hfz90_1, hfz90_2⟩ := cells3 BK1052.out
               have hnb91 := NB1054_1053.out
               have hnc91 := NB1053_1054.out
               obtain ⟨hcz92_0, hcz92_1, hcz92_2, hfz92_0, hfz92_1, hfz92_2⟩ := cells3 BK1054.out
               go_wp2_with (first | ((with_reducible refine gc 65 rfl ?_); refine gl (some 97) #[.bool (x1055001_3 != 0)] Tryd.func65 ?_; (with_reducible refine (val_Truth.calls (x1055001_3 != 0) t1078 t1079 t1080 _ A87.out).mono ?_); rintro e w93 ⟨rfl, hb⟩; refine ⟨_, rfl, ?_⟩; replace BK1052 := kb gb1052 hb; replace BK1053 := kb gb1053 hb; replace BK1054 := kb gb1054 hb; replace HB := bst hb; (try clear hb); obtain ⟨hcz94_0, hcz94_1, hcz94_2, hfz94_0, hfz94_1, hfz94_2⟩ := cells3 BK1053.out))
               refine bodyPost_ret (results_ct rfl _ _ gb1053 103 #[.int .i64 t1078, .int .i64 t1079, .string t1080] (0, 0) _ rfl qP Tryd.underlying103 rfl (by kernel_rfl)) rfl ?_
               exact ⟨qR, qB⟩
             ·rw [if_neg c78] at H
              have c78b0 := beq_eq_false_iff_ne.mpr c78
              have c78b1 := bne_iff_ne.mpr c78
              by_cases c95 : a0 = 15
              ·rw [if_pos c95] at H
               have c95b0 := beq_iff_eq.mpr c95
               have c95b1 := bne_eq_false_iff_eq.mpr c95
               clear c95
               by_cases c96 : a1_1 = 0
               ·rw [if_pos c96] at H
                have c96b0 := beq_iff_eq.mpr c96
                have c96b1 := bne_eq_false_iff_eq.mpr c96
                clear c96
                replace H := Option.bind_eq_some_iff.mp H
                obtain ⟨⟨t1081, t1082, t1083⟩, A970, H⟩ := H
                (try dsimp -simprocs only at H)
                have A97 := Aside0.mk A970
                clear A970
                simp only [Option.some.injEq, Prod.mk.injEq] at H
                obtain ⟨rfl, rfl, rfl, rfl⟩ := H
                have hnb98 := NB1052_1053.out
                have hnc98 := NB1053_1052.out
                have hnb99 := NB1052_1054.out
                have hnc99 := NB1054_1052.out
                obtain ⟨hcz100_0, hcz100_1, hcz100_2, hfz100_0, hfz100_1, hfz100_2⟩ := cells3 BK1052.out
                have hnb101 := NB1054_1053.out
                have hnc101 := NB1053_1054.out
                obtain ⟨hcz102_0, hcz102_1, hcz102_2, hfz102_0, hfz102_1, hfz102_2⟩ := cells3 BK1054.out
                go_wp2_with (first | ((with_reducible refine gc 65 rfl ?_); refine gl (some 108) #[.bool (x1055001_3 != 0)] Tryd.func65 ?_; (with_reducible refine (val_Truth.calls (x1055001_3 != 0) t1081 t1082 t1083 _ A97.out).mono ?_); rintro e w103 ⟨rfl, hb⟩; refine ⟨_, rfl, ?_⟩; replace BK1052 := kb gb1052 hb; replace BK1053 := kb gb1053 hb; replace BK1054 := kb gb1054 hb; replace HB := bst hb; (try clear hb); obtain ⟨hcz104_0, hcz104_1, hcz104_2, hfz104_0, hfz104_1, hfz104_2⟩ := cells3 BK1053.out))
                refine bodyPost_ret (results_ct rfl _ _ gb1053 103 #[.int .i64 t1081, .int .i64 t1082, .string t1083] (0, 0) _ rfl qP Tryd.underlying103 rfl (by kernel_rfl)) rfl ?_
                exact ⟨qR, qB⟩
               ·rw [if_neg c96] at H
                have c96b0 := beq_eq_false_iff_ne.mpr c96
                have c96b1 := bne_iff_ne.mpr c96
                replace H := Option.bind_eq_some_iff.mp H
                obtain ⟨⟨t1084, t1085, t1086⟩, A1050, H⟩ := H
                (try dsimp -simprocs only at H)
                have A105 := Aside0.mk A1050
                clear A1050
                simp only [Option.some.injEq, Prod.mk.injEq] at H
                obtain ⟨rfl, rfl, rfl, rfl⟩ := H
                have hnb106 := NB1052_1053.out
                have hnc106 := NB1053_1052.out
                have hnb107 := NB1052_1054.out
                have hnc107 := NB1054_1052.out
                obtain ⟨hcz108_0, hcz108_1, hcz108_2, hfz108_0, hfz108_1, hfz108_2⟩ := cells3 BK1052.out
                go_wp2_with (first | ((with_reducible refine gc 65 rfl ?_); refine gl (some 108) #[.bool true] Tryd.func65 ?_; (with_reducible refine (val_Truth.calls true t1084 t1085 t1086 _ A105.out).mono ?_); rintro e w109 ⟨rfl, hb⟩; refine ⟨_, rfl, ?_⟩; replace BK1052 := kb gb1052 hb; replace BK1053 := kb gb1053 hb; replace BK1054 := kb gb1054 hb; replace HB := bst hb; (try clear hb); have hnb110 := NB1053_1054.out; have hnc110 := NB1054_1053.out; obtain ⟨hcz111_0, hcz111_1, hcz111_2, hfz111_0, hfz111_1, hfz111_2⟩ := cells3 BK1053.out))
                refine bodyPost_ret (results_ct rfl _ _ gb1053 103 #[.int .i64 t1084, .int .i64 t1085, .string t1086] (0, 0) _ rfl qP Tryd.underlying103 rfl (by kernel_rfl)) rfl ?_
                exact ⟨qR, qB⟩
              ·rw [if_neg c95] at H
               have c95b0 := beq_eq_false_iff_ne.mpr c95
               have c95b1 := bne_iff_ne.mpr c95
               by_cases c112 : a0 = 6
               ·rw [if_pos c112] at H
                have c112b0 := beq_iff_eq.mpr c112
                have c112b1 := bne_eq_false_iff_eq.mpr c112
                clear c112
                by_cases c113 : a1_0 = 3
                ·rw [if_pos c113] at H
                 have c113b0 := beq_iff_eq.mpr c113
                 have c113b1 := bne_eq_false_iff_eq.mpr c113
                 clear c113
                 replace H := Option.bind_eq_some_iff.mp H
                 obtain ⟨⟨t1087, t1088, t1089, t1090⟩, A1140, H⟩ := H
                 (try dsimp -simprocs only at H)
                 have A114 := Aside0.mk A1140
                 clear A1140
                 simp only [Option.some.injEq, Prod.mk.injEq] at H
                 obtain ⟨rfl, rfl, rfl, rfl⟩ := H
                 have hnb115 := NB1052_1053.out
                 have hnc115 := NB1053_1052.out
                 have hnb116 := NB1052_1054.out
                 have hnc116 := NB1054_1052.out
                 obtain ⟨hcz117_0, hcz117_1, hcz117_2, hfz117_0, hfz117_1, hfz117_2⟩ := cells3 BK1052.out
                 have hnb118 := NB1054_1053.out
                 have hnc118 := NB1053_1054.out
                 obtain ⟨hcz119_0, hcz119_1, hcz119_2, hfz119_0, hfz119_1, hfz119_2⟩ := cells3 BK1054.out
                 go_wp2_with (first | ((with_reducible refine gc 149 rfl ?_); refine gl (some 118) #[.string a1_2, .string x1055002_3] Tryd.func149 ?_; (with_reducible refine (val_join.calls a1_2 x1055002_3 t1087 t1088 t1089 t1090 _ A114.out).mono ?_); rintro e w120 ⟨rfl, hb⟩; refine ⟨_, rfl, ?_⟩; replace BK1052 := kb gb1052 hb; replace BK1053 := kb gb1053 hb; replace BK1054 := kb gb1054 hb; replace HB := bst hb; (try clear hb); obtain ⟨hcz121_0, hcz121_1, hcz121_2, hfz121_0, hfz121_1, hfz121_2⟩ := cells3 BK1053.out))
                 refine bodyPost_ret (results_ct rfl _ _ gb1053 103 #[.int .i64 t1087, .int .i64 t1088, .string t1089] (0, 0) _ rfl qP Tryd.underlying103 rfl (by kernel_rfl)) rfl ?_
                 exact ⟨qR, qB⟩
                ·rw [if_neg c113] at H
                 have c113b0 := beq_eq_false_iff_ne.mpr c113
                 have c113b1 := bne_iff_ne.mpr c113
                 replace H := Option.bind_eq_some_iff.mp H
                 obtain ⟨⟨t1091, t1092, t1093, t1094⟩, A1220, H⟩ := H
                 (try dsimp -simprocs only at H)
                 have A122 := Aside0.mk A1220
                 clear A1220
                 simp only [Option.some.injEq, Prod.mk.injEq] at H
                 obtain ⟨rfl, rfl, rfl, rfl⟩ := H
                 have hnb123 := NB1052_1053.out
                 have hnc123 := NB1053_1052.out
                 have hnb124 := NB1052_1054.out
                 have hnc124 := NB1054_1052.out
                 obtain ⟨hcz125_0, hcz125_1, hcz125_2, hfz125_0, hfz125_1, hfz125_2⟩ := cells3 BK1052.out
                 have hnb126 := NB1054_1053.out
                 have hnc126 := NB1053_1054.out
                 obtain ⟨hcz127_0, hcz127_1, hcz127_2, hfz127_0, hfz127_1, hfz127_2⟩ := cells3 BK1054.out
                 go_wp2_with (first | ((with_reducible refine gc 150 rfl ?_); refine gl (some 126) #[.int .i64 a0, .int .i64 a1_1, .int .i64 x1055001_3] Tryd.func150 ?_; (with_reducible refine (val_number.calls kj44 a0 a1_1 x1055001_3 t1091 t1092 t1093 t1094 _ A122.out).mono ?_); rintro e w128 ⟨rfl, hb⟩; refine ⟨_, rfl, ?_⟩; replace BK1052 := kb gb1052 hb; replace BK1053 := kb gb1053 hb; replace BK1054 := kb gb1054 hb; replace HB := bst hb; (try clear hb); obtain ⟨hcz129_0, hcz129_1, hcz129_2, hfz129_0, hfz129_1, hfz129_2⟩ := cells3 BK1053.out))
                 refine bodyPost_ret (results_ct rfl _ _ gb1053 103 #[.int .i64 t1091, .int .i64 t1092, .string t1093] (0, 0) _ rfl qP Tryd.underlying103 rfl (by kernel_rfl)) rfl ?_
                 exact ⟨qR, qB⟩
               ·rw [if_neg c112] at H
                have c112b0 := beq_eq_false_iff_ne.mpr c112
                have c112b1 := bne_iff_ne.mpr c112
                replace H := Option.bind_eq_some_iff.mp H
                obtain ⟨⟨t1095, t1096, t1097, t1098⟩, A1300, H⟩ := H
                (try dsimp -simprocs only at H)
                have A130 := Aside0.mk A1300
                clear A1300
                simp only [Option.some.injEq, Prod.mk.injEq] at H
                obtain ⟨rfl, rfl, rfl, rfl⟩ := H
                have hnb131 := NB1052_1053.out
                have hnc131 := NB1053_1052.out
                have hnb132 := NB1052_1054.out
                have hnc132 := NB1054_1052.out
                obtain ⟨hcz133_0, hcz133_1, hcz133_2, hfz133_0, hfz133_1, hfz133_2⟩ := cells3 BK1052.out
                have hnb134 := NB1054_1053.out
                have hnc134 := NB1053_1054.out
                obtain ⟨hcz135_0, hcz135_1, hcz135_2, hfz135_0, hfz135_1, hfz135_2⟩ := cells3 BK1054.out
                go_wp2_with (first | ((with_reducible refine gc 150 rfl ?_); refine gl (some 126) #[.int .i64 a0, .int .i64 a1_1, .int .i64 x1055001_3] Tryd.func150 ?_; (with_reducible refine (val_number.calls kj44 a0 a1_1 x1055001_3 t1095 t1096 t1097 t1098 _ A130.out).mono ?_); rintro e w136 ⟨rfl, hb⟩; refine ⟨_, rfl, ?_⟩; replace BK1052 := kb gb1052 hb; replace BK1053 := kb gb1053 hb; replace BK1054 := kb gb1054 hb; replace HB := bst hb; (try clear hb); obtain ⟨hcz137_0, hcz137_1, hcz137_2, hfz137_0, hfz137_1, hfz137_2⟩ := cells3 BK1053.out))
                refine bodyPost_ret (results_ct rfl _ _ gb1053 103 #[.int .i64 t1095, .int .i64 t1096, .string t1097] (0, 0) _ rfl qP Tryd.underlying103 rfl (by kernel_rfl)) rfl ?_
                exact ⟨qR, qB⟩
end Go.Proofs.YtbngfhlciebeeaaDoor.L
