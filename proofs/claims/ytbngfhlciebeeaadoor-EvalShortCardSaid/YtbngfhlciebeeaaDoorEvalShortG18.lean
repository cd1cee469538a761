/- Printed and hand-written steps towards the row (EvalShort), those that it reaches. -/
import Derived.Test.YtbngfhlciebeeaaDoorEvalShortG3
import Derived.Test.YtbngfhlciebeeaaDoorEvalShortG4
import Derived.Test.YtbngfhlciebeeaaDoorEvalShortG10
import Derived.Test.YtbngfhlciebeeaaDoorEvalShortG11
import Derived.Test.YtbngfhlciebeeaaDoorEvalShortG15
import Derived.Test.YtbngfhlciebeeaaDoorEvalShortG16
import Derived.Test.YtbngfhlciebeeaaDoorEvalShortLxf150
section
namespace Go.Proofs.YtbngfhlciebeeaaDoor.L
open Go.RowKit Go.Proofs.YtbngfhlciebeeaaDoorW.PrintWords Go.Proofs.YtbngfhlciebeeaaDoorW.PrintLast Go.Proofs.YtbngfhlciebeeaaDoorW.PrintMore
attribute [local go_sem] max2_int min2_int max_two min_two max_three min_three max_four min_four   -- for this text's walks alone
set_option linter.unusedVariables false
set_option linter.unusedSimpArgs false
attribute [local go_sem high] eqA103
mutual
def val_Reckon.j0 : Nat → Int → List (S103) → Int → Int → ByteArray → Int → Int → ByteArray → Option (Int × Int × ByteArray × Int)
 | 0, _, _, _, _, _, _, _, _ => none
 | k + 1, x0, x2, x1053000, x1053001, x1053002, x1055000, x1055001, x1055002 => (val_Result.f k x0 x1053000 x1055000).bind fun bt1056 => (if bt1056.2 = true then (if (x2.length : Int) = 1 then (if (x2.length : Int) = 0 then (val_Reckon.j1 k x0 false x1053000 x1053001 x1053002 x1055000 x1055001 x1055002) else (val_Reckon.j1 k x0 (decide (x0 ≤ 2)) x1053000 x1053001 x1053002 x1055000 x1055001 x1055002)) else (if x0 > 2 then (val_Reckon.j1 k x0 true x1053000 x1053001 x1053002 x1055000 x1055001 x1055002) else (if (x2.length : Int) = 0 then (val_Reckon.j1 k x0 false x1053000 x1053001 x1053002 x1055000 x1055001 x1055002) else (val_Reckon.j1 k x0 (decide (x0 ≤ 2)) x1053000 x1053001 x1053002 x1055000 x1055001 x1055002)))) else (val_Reckon.j1 k x0 true x1053000 x1053001 x1053002 x1055000 x1055001 x1055002))
def val_Reckon.j1 : Nat → Int → Bool → Int → Int → ByteArray → Int → Int → ByteArray → Option (Int × Int × ByteArray × Int)
 | 0, _, _, _, _, _, _, _, _ => none
 | k + 1, x0, x45, x1053000, x1053001, x1053002, x1055000, x1055001, x1055002 => if x45 = true then (some (0, 0, (⟨#[]⟩ : ByteArray), 20)) else (if x0 = 1 then ((val_Truth.f (x1053001 == 0)).bind fun bt1058 => (some (bt1058.1, bt1058.2.1, bt1058.2.2, 0))) else (if x0 = 2 then ((val_over.f (wrap64 (-x1053001)) (x1053001 == (-9223372036854775808))).bind fun bt1061 => (some (bt1061.1, bt1061.2.1, bt1061.2.2.1, bt1061.2.2.2))) else (if x0 = 8 then (val_Reckon.j2 k x0 x0 (x0 == 8) x1053000 x1053001 x1053002 x1055000 x1055001 x1055002) else (if x0 = 9 then (val_Reckon.j2 k x0 x0 (x0 == 9) x1053000 x1053001 x1053002 x1055000 x1055001 x1055002) else (if x0 = 10 then (val_Reckon.j2 k x0 x0 (x0 == 10) x1053000 x1053001 x1053002 x1055000 x1055001 x1055002) else (val_Reckon.j2 k x0 x0 (x0 == 11) x1053000 x1053001 x1053002 x1055000 x1055001 x1055002))))))
def val_Reckon.j2 : Nat → Int → Int → Bool → Int → Int → ByteArray → Int → Int → ByteArray → Option (Int × Int × ByteArray × Int)
 | 0, _, _, _, _, _, _, _, _, _ => none
 | k + 1, x0, x47, x65, x1053000, x1053001, x1053002, x1055000, x1055001, x1055002 => if x65 = true then ((val_compare.f k x1053000 x1053001 x1053002 x1055000 x1055001 x1055002).bind fun t1065 => ((val_order.f x0 t1065).bind fun bt1066 => (some (bt1066.1, bt1066.2.1, bt1066.2.2, 0)))) else (if x47 = 12 then ((val_Truth.f (x1053000 == x1055000 && (x1053001 == x1055001 && (x1053002.toList == x1055002.toList)))).bind fun bt1069 => (some (bt1069.1, bt1069.2.1, bt1069.2.2, 0))) else (if x47 = 13 then ((val_Truth.f (!(x1053000 == x1055000) || (!(x1053001 == x1055001) || (!(x1053002.toList == x1055002.toList))))).bind fun bt1072 => (some (bt1072.1, bt1072.2.1, bt1072.2.2, 0))) else (if x47 = 14 then (if x1053001 = 0 then ((val_Truth.f false).bind fun bt1075 => (some (bt1075.1, bt1075.2.1, bt1075.2.2, 0))) else ((val_Truth.f (x1055001 != 0)).bind fun bt1078 => (some (bt1078.1, bt1078.2.1, bt1078.2.2, 0)))) else (if x47 = 15 then (if x1053001 = 0 then ((val_Truth.f (x1055001 != 0)).bind fun bt1081 => (some (bt1081.1, bt1081.2.1, bt1081.2.2, 0))) else ((val_Truth.f true).bind fun bt1084 => (some (bt1084.1, bt1084.2.1, bt1084.2.2, 0)))) else (if x47 = 6 then (if x1053000 = 3 then ((val_join.f x1053002 x1055002).bind fun bt1087 => (some (bt1087.1, bt1087.2.1, bt1087.2.2.1, bt1087.2.2.2))) else ((val_number.f k x0 x1053001 x1055001).bind fun bt1091 => (some (bt1091.1, bt1091.2.1, bt1091.2.2.1, bt1091.2.2.2)))) else ((val_number.f k x0 x1053001 x1055001).bind fun bt1095 => (some (bt1095.1, bt1095.2.1, bt1095.2.2.1, bt1095.2.2.2))))))))
end
def val_Reckon.f (k : Nat) (a0 : Int) (a1_0 : Int) (a1_1 : Int) (a1_2 : ByteArray) (l2 : List (S103)) : Option (Int × Int × ByteArray × Int) := if (l2.length : Int) > 0 then (if 0 < (l2.length : Int) then (val_Reckon.j0 k a0 l2 a1_0 a1_1 a1_2 ((rd_T103 l2 0).f0) ((rd_T103 l2 0).f1) ((rd_T103 l2 0).f2)) else (none)) else (val_Reckon.j0 k a0 l2 a1_0 a1_1 a1_2 0 0 (⟨#[]⟩ : ByteArray))
set_option maxHeartbeats 8000000 in
set_option maxRecDepth 100000 in
theorem val_Reckon.calls (k : Nat) (a0 : Int) (a1_0 : Int) (a1_1 : Int) (a1_2 : ByteArray) (A2 : Option Addr) (c2 : Nat) (l2 : List (S103)) (r1 : Int) (r2 : Int) (r3 : ByteArray) (r4 : Int) (w : World) (hr2 : Kd.C k103 w A2 l2.length l2) (hc2 : l2.length ≤ c2) (h : val_Reckon.f k a0 a1_0 a1_1 a1_2 l2 = some (r1, r2, r3, r4)) :
  Calls Tryd.prog 124 #[.int .i64 a0, .agg #[.int .i64 a1_0, .int .i64 a1_1, .string a1_2], .slice A2 l2.length c2] w fun e w' => e = .returned (.tuple #[.agg #[.int .i64 r1, .int .i64 r2, .string r3], .int .i64 r4]) ∧ Below w.heap.size w w' := by
 have hu103 := Tryd.underlying103
 have HR2 := Aside0.mk hr2
 have HC2 := Aside0.mk hc2
 clear hr2 hc2
 have HB := Aside0.mk (Below.refl w.heap.size w)
 have H : (if (l2.length : Int) > 0 then (if 0 < (l2.length : Int) then (val_Reckon.j0 k a0 l2 a1_0 a1_1 a1_2 ((rd_T103 l2 0).f0) ((rd_T103 l2 0).f1) ((rd_T103 l2 0).f2)) else (none)) else (val_Reckon.j0 k a0 l2 a1_0 a1_1 a1_2 0 0 (⟨#[]⟩ : ByteArray))) = some (r1, r2, r3, r4) := h
 clear h
 have HC4 := Aside0.mk H
 clear H
 go_enter Tryd.func124, Tryd.ntmps124
 go_upto_if 13 with (first | ((with_reducible refine gate_dst (N := 4) rfl ?_); (try (refine gate_guard (by rfl) ?_; dsimp only)); refine box_event ?hg (N := 4) ?hd (cs := #[.int .i64 a1_0, .int .i64 a1_1, .string a1_2]) (t := 103) ?hr ?_; (case hd => rfl); (case hg => rfl); (case hr => first | (go_simp; done) | (go_simp; rfl)); intro gb1052 hg w5 hbox hb; have BK1052 := Aside0.mk (hbox); have GW1052 := geS hg; have GE1052 := geS hg; replace HB := bst hb; clear hb hbox hg) | ((with_reducible refine gate_dst (N := 6) rfl ?_); (try (refine gate_guard (by rfl) ?_; dsimp only)); refine box_event ?hg (N := 6) ?hd (cs := #[.int .i64 0, .int .i64 0, .string (⟨#[]⟩ : ByteArray)]) (t := 103) ?hr ?_; (case hd => rfl); (case hg => rfl); (case hr => first | (go_simp; done) | (go_simp; rfl)); intro gb1053 hg w6 hbox hb; have BK1053 := Aside0.mk (hbox); have GW1053 := geS hg; have GE1053 := geS hg; have NB1052_1053 := neS gb1052 hg; have NB1053_1052 := neT gb1052 hg; replace BK1052 := kb gb1052 hb; replace HB := bst hb; clear hb hbox hg) | ((with_reducible refine gate_dst (N := 8) rfl ?_); (try (refine gate_guard (by rfl) ?_; dsimp only)); refine box_event ?hg (N := 8) ?hd (cs := #[.int .i64 0, .int .i64 0, .string (⟨#[]⟩ : ByteArray)]) (t := 103) ?hr ?_; (case hd => rfl); (case hg => rfl); (case hr => first | (go_simp; done) | (go_simp; rfl)); intro gb1054 hg w7 hbox hb; have BK1054 := Aside0.mk (hbox); have GW1054 := geS hg; have GE1054 := geS hg; have NB1052_1054 := neS gb1052 hg; have NB1054_1052 := neT gb1052 hg; have NB1053_1054 := neS gb1053 hg; have NB1054_1053 := neT gb1053 hg; replace BK1052 := kb gb1052 hb; replace BK1053 := kb gb1053 hb; replace HB := bst hb; clear hb hbox hg))
 (try simp only [Act.put, List.setIfInBounds_toArray, List.set_cons_zero, List.set_cons_succ])
 go_cut [] (fun wc => ∃ (kq : Nat) (x1055000_3 : Int) (x1055001_3 : Int) (x1055002_3 : ByteArray), Aside0 (val_Reckon.j0 kq a0 l2 a1_0 a1_1 a1_2 x1055000_3 x1055001_3 x1055002_3 = some (r1, r2, r3, r4)) ∧ Aside0 (kq ≤ k) ∧ Aside0 (wc.heap[gb1052]? = some (.cells #[.int .i64 a1_0, .int .i64 a1_1, .string a1_2] 103 (0, 0))) ∧ Aside0 (wc.heap[gb1053]? = some (.cells #[.int .i64 0, .int .i64 0, .string (⟨#[]⟩ : ByteArray)] 103 (0, 0))) ∧ Aside0 (wc.heap[gb1054]? = some (.cells #[.int .i64 x1055000_3, .int .i64 x1055001_3, .string x1055002_3] 103 (0, 0))) ∧ Aside0 (Below w.heap.size w wc))
 case first =>
  have H := HC4.out
  clear HC4
  by_cases c8 : (l2.length : Int) > 0
  ·rw [if_pos c8] at H
   have c8b0 := decide_eq_true c8
   have c8b1 : decide (0 < l2.length) = true := decide_eq_true (by omega)
   clear c8
   (first | rw [c8b0] | (simp only [i64_w, i32_w]; rw [c8b0]) | rw [c8b1] | simp only [c8b1] | skip)
   by_cases c9 : 0 < (l2.length : Int)
   ·rw [if_pos c9] at H
    have c9b0 := decide_eq_true c9
    have c9b1 : decide (0 < l2.length) = true := decide_eq_true (by omega)
    clear c9
    have H' := Aside0.mk H
    clear H
    have p1055 : 0 ≤ (0 : Int) := (by omega)
    have q1055 : 0 < (l2.length : Int) := qD
    obtain ⟨ad1055, e1055, hx1055_0, hx1055_1, hx1055_2⟩ := at_T103 HR2.out 0 p1055 q1055
    cases e1055
    have qi1055 : (0 < l2.length) = True := eq_true (by omega)
    (try rw [show ((0 : Int)).toNat = 0 from rfl] at hx1055_0)
    (try rw [show 0 * 3 = 0 from rfl] at hx1055_0)
    (try rw [Addr.add_zero'] at hx1055_0)
    (try rw [show ((0 : Int)).toNat = 0 from rfl] at hx1055_1)
    (try rw [show 0 * 3 = 0 from rfl] at hx1055_1)
    (try rw [Addr.add_zero'] at hx1055_1)
    (try rw [show ((0 : Int)).toNat = 0 from rfl] at hx1055_2)
    (try rw [show 0 * 3 = 0 from rfl] at hx1055_2)
    (try rw [Addr.add_zero'] at hx1055_2)
    replace hx1055_0 := pw_cell_below HB.out hx1055_0
    replace hx1055_1 := pw_cell_below HB.out hx1055_1
    replace hx1055_2 := pw_cell_below HB.out hx1055_2
    replace p1055 := eq_true p1055
    replace q1055 := eq_true q1055
    have := NB1054_1052.out
    have := NB1052_1054.out
    have := NB1054_1053.out
    have := NB1053_1054.out
    obtain ⟨_, _, _, _, _, _⟩ := cells3 BK1054.out
    go_wp2
    go_meet
    case rel => exact ⟨_, ((rd_T103 l2 0).f0), ((rd_T103 l2 0).f1), ((rd_T103 l2 0).f2), H', ⟨by first | omega | exact Nat.le_refl _⟩, ⟨qK⟩, ⟨qK⟩, ⟨qP⟩, ⟨qB⟩⟩
   rw [if_neg c9] at H
   exact absurd H (by simp)
  rw [if_neg c8] at H
  have c8b0 := decide_eq_false c8
  have c8b1 : decide (0 < l2.length) = false := decide_eq_false (by omega)
  clear c8
  (first | rw [c8b0] | (simp only [i64_w, i32_w]; rw [c8b0]) | rw [c8b1] | simp only [c8b1] | skip)
  have H' := Aside0.mk H
  clear H
  go_wp2
  go_meet
  case rel => exact ⟨_, (0), (0), ((⟨#[]⟩ : ByteArray)), H', ⟨by first | omega | exact Nat.le_refl _⟩, ⟨qK⟩, ⟨qK⟩, ⟨qK⟩, ⟨qB⟩⟩
 case rest =>
  clear HC4
  try clear p1
  try clear q1
  try clear hx1
  try clear qi1
  try clear p2
  try clear p10
  try clear q10
  try clear hx10
  try clear qi10
  try clear hx1055_0
  try clear hx1055_1
  try clear hx1055_2
  try clear p1055
  try clear q1055
  obtain ⟨kq, x1055000_3, x1055001_3, x1055002_3, HA, HJ3, BK1052, BK1053, BK1054, HB⟩ := hcut
  cases kq with
  | zero => exact absurd HA.out (by simp [val_Reckon.j0])
  | succ kj3 =>
   have H := HA.out
   clear HA
   simp only [val_Reckon.j0] at H
   replace H := Option.bind_eq_some_iff.mp H
   obtain ⟨⟨t1056, t1057⟩, A130, H⟩ := H
   (try dsimp -simprocs only at H)
   have A13 := Aside0.mk A130
   clear A130
   have HC14 := Aside0.mk H
   clear H
   have := NB1052_1053.out
   have := NB1053_1052.out
   have := NB1052_1054.out
   have := NB1054_1052.out
   obtain ⟨_, _, _, _, _, _⟩ := cells3 BK1052.out
   have := NB1054_1053.out
   have := NB1053_1054.out
   obtain ⟨_, _, _, _, _, _⟩ := cells3 BK1054.out
   go_upto_region 5 with (first | ((with_reducible refine gc 118 rfl ?_); refine gl (some 23) #[.int .i64 a0, .int .i64 a1_0, .int .i64 x1055000_3] Tryd.func118 ?_; (with_reducible refine (val_Result.calls kj3 a0 a1_0 x1055000_3 t1056 t1057 _ A13.out).mono ?_); rintro e w' ⟨rfl, ⟨nd, rfl⟩⟩; refine ⟨_, rfl, ?_⟩))
   (try simp only [Act.put, List.setIfInBounds_toArray, List.set_cons_zero, List.set_cons_succ])
   go_cut [45] (fun v45 wc => ∃ (kq : Nat) (x45_13 : Bool), v45 = .bool x45_13 ∧ Aside0 (val_Reckon.j1 kq a0 x45_13 a1_0 a1_1 a1_2 x1055000_3 x1055001_3 x1055002_3 = some (r1, r2, r3, r4)) ∧ Aside0 (kq ≤ kj3) ∧ Aside0 (wc.heap[gb1052]? = some (.cells #[.int .i64 a1_0, .int .i64 a1_1, .string a1_2] 103 (0, 0))) ∧ Aside0 (wc.heap[gb1053]? = some (.cells #[.int .i64 0, .int .i64 0, .string (⟨#[]⟩ : ByteArray)] 103 (0, 0))) ∧ Aside0 (wc.heap[gb1054]? = some (.cells #[.int .i64 x1055000_3, .int .i64 x1055001_3, .string x1055002_3] 103 (0, 0))) ∧ Aside0 (Below w.heap.size w wc))
   case first =>
    have H := HC14.out
    clear HC14
    by_cases c20 : t1057 = true
    ·subst c20; rw [if_pos rfl] at H
     by_cases c21 : (l2.length : Int) = 1
     ·rw [if_pos c21] at H; have c21b0 := beq_iff_eq.mpr c21; have c21b1 := bne_eq_false_iff_eq.mpr c21; clear c21; (first | rw [c21b0] | (simp only [i64_w, i32_w]; rw [c21b0]) | skip)
      by_cases c22 : (l2.length : Int) = 0
      ·rw [if_pos c22] at H; have c22b0 := beq_iff_eq.mpr c22; have c22b1 := bne_eq_false_iff_eq.mpr c22; clear c22; have H' := Aside0.mk H; clear H
       go_wp2
       go_meet
       case rel => exact ⟨_, (false), qE, H', ⟨by have := HJ3.out; first | omega | exact Nat.le_refl _⟩, ⟨qK⟩, ⟨qK⟩, ⟨qK⟩, ⟨qB⟩⟩
      rw [if_neg c22] at H; have c22b0 := beq_eq_false_iff_ne.mpr c22; have c22b1 := bne_iff_ne.mpr c22; have c22b2 : ¬ (l2 = []) := fun h_ => c22 (by rw [h_]; rfl)
      have H' := Aside0.mk H; clear H
      go_wp2
      go_meet
      case rel => exact ⟨_, (decide (a0 ≤ 2)), qE, H', ⟨by have := HJ3.out; first | omega | exact Nat.le_refl _⟩, ⟨qK⟩, ⟨qK⟩, ⟨qK⟩, ⟨qB⟩⟩
     rw [if_neg c21] at H; have c21b0 := beq_eq_false_iff_ne.mpr c21; have c21b1 := bne_iff_ne.mpr c21; (first | rw [c21b0] | (simp only [i64_w, i32_w]; rw [c21b0]) | skip); replace H := iD H
     rcases H with ⟨c23b0, H⟩ | ⟨c23b0, H⟩
     ·have H' := Aside0.mk H; clear H
      go_wp2
      go_meet
      case rel => exact ⟨_, (true), qE, H', ⟨by have := HJ3.out; first | omega | exact Nat.le_refl _⟩, ⟨qK⟩, ⟨qK⟩, ⟨qK⟩, ⟨qB⟩⟩
     by_cases c24 : (l2.length : Int) = 0
     ·rw [if_pos c24] at H; have c24b0 := beq_iff_eq.mpr c24; have c24b1 := bne_eq_false_iff_eq.mpr c24; clear c24; have H' := Aside0.mk H; clear H
      go_wp2
      go_meet
      case rel => exact ⟨_, (false), qE, H', ⟨by have := HJ3.out; first | omega | exact Nat.le_refl _⟩, ⟨qK⟩, ⟨qK⟩, ⟨qK⟩, ⟨qB⟩⟩
     rw [if_neg c24] at H; have c24b0 := beq_eq_false_iff_ne.mpr c24; have c24b1 := bne_iff_ne.mpr c24; have c24b2 : ¬ (l2 = []) := fun h_ => c24 (by rw [h_]; rfl)
     have H' := Aside0.mk H; clear H
     go_wp2
     go_meet
     case rel => exact ⟨_, (decide (a0 ≤ 2)), qE, H', ⟨by have := HJ3.out; first | omega | exact Nat.le_refl _⟩, ⟨qK⟩, ⟨qK⟩, ⟨qK⟩, ⟨qB⟩⟩
    replace c20 := Bool.eq_false_iff.mpr c20
    subst c20
    rw [if_neg (show ¬ (false = true) by decide)] at H
    have H' := Aside0.mk H
    clear H
    go_wp2
    go_meet
    case rel => exact ⟨_, (true), qE, H', ⟨by have := HJ3.out; first | omega | exact Nat.le_refl _⟩, ⟨qK⟩, ⟨qK⟩, ⟨qK⟩, ⟨qB⟩⟩
   case rest =>
    clear HC14
    try clear p1 p1
    try clear q1 q1
    try clear hx1
    try clear qi1
    try clear p2 p2
    try clear p10 p10
    try clear q10 q10
    try clear hx10
    try clear qi10
    try clear hx1055_0
    try clear hx1055_1
    try clear hx1055_2
    try clear p1055
    try clear q1055
    obtain ⟨kq, x45_13, rfl, HA, HJ13, BK1052, BK1053, BK1054, HB⟩ := hcut
    cases kq with
    | zero => exact absurd HA.out (by simp [val_Reckon.j1])
    | succ kj13 =>
     have H := HA.out; clear HA; simp only [val_Reckon.j1] at H
     by_cases c25 : x45_13 = true
     ·subst c25; rw [if_pos rfl] at H; simp only [Option.some.injEq, Prod.mk.injEq] at H; obtain ⟨rfl, rfl, rfl, rfl⟩ := H; have := NB1053_1052.out; have := NB1052_1053.out; have := NB1053_1054.out; have := NB1054_1053.out; obtain ⟨_, _, _, _, _, _⟩ := cells3 BK1053.out
      go_wp2
      refine rct gb1053 103 #[.int .i64 0, .int .i64 0, .string (⟨#[]⟩ : ByteArray)] Tryd.underlying103 ?_; exact ⟨qR, qB⟩
     replace c25 := Bool.eq_false_iff.mpr c25; subst c25; rw [if_neg (show ¬ (false = true) by decide)] at H
     by_cases c29 : a0 = 1
     ·rw [if_pos c29] at H; have c29b0 := beq_iff_eq.mpr c29; have c29b1 := bne_eq_false_iff_eq.mpr c29; clear c29; replace H := Option.bind_eq_some_iff.mp H; obtain ⟨⟨t1058, t1059, t1060⟩, A300, H⟩ := H; (try dsimp -simprocs only at H); have A30 := Aside0.mk A300; clear A300; simp only [Option.some.injEq, Prod.mk.injEq] at H; obtain ⟨rfl, rfl, rfl, rfl⟩ := H; have := NB1052_1053.out; have := NB1053_1052.out; have := NB1052_1054.out; have := NB1054_1052.out; obtain ⟨_, _, _, _, _, _⟩ := cells3 BK1052.out
      go_wp2_with (first | ((with_reducible refine gc 65 rfl ?_); refine gl (some 53) #[.bool (a1_1 == 0)] Tryd.func65 ?_; (with_reducible refine (val_Truth.calls (a1_1 == 0) t1058 t1059 t1060 _ A30.out).mono ?_); rintro e w34 ⟨rfl, hb⟩; refine ⟨_, rfl, ?_⟩; replace BK1052 := kb gb1052 hb; replace BK1053 := kb gb1053 hb; replace BK1054 := kb gb1054 hb; replace HB := bst hb; (try clear hb); have := NB1053_1054.out; have := NB1054_1053.out; obtain ⟨_, _, _, _, _, _⟩ := cells3 BK1053.out))
      refine rct gb1053 103 #[.int .i64 t1058, .int .i64 t1059, .string t1060] Tryd.underlying103 ?_; exact ⟨qR, qB⟩
     rw [if_neg c29] at H; have c29b0 := beq_eq_false_iff_ne.mpr c29; have c29b1 := bne_iff_ne.mpr c29
     by_cases c37 : a0 = 2
     ·rw [if_pos c37] at H; have c37b0 := beq_iff_eq.mpr c37; have c37b1 := bne_eq_false_iff_eq.mpr c37; clear c37; replace H := Option.bind_eq_some_iff.mp H; obtain ⟨⟨t1061, t1062, t1063, t1064⟩, A380, H⟩ := H; (try dsimp -simprocs only at H); have A38 := Aside0.mk A380; clear A380; simp only [Option.some.injEq, Prod.mk.injEq] at H; obtain ⟨rfl, rfl, rfl, rfl⟩ := H; have := NB1052_1053.out; have := NB1053_1052.out; have := NB1052_1054.out; have := NB1054_1052.out; obtain ⟨_, _, _, _, _, _⟩ := cells3 BK1052.out
      go_wp2_with (first | ((with_reducible refine gc 146 rfl ?_); refine gl (some 62) #[.int .i64 (wrap64 (-a1_1)), .bool (a1_1 == (-9223372036854775808))] Tryd.func146 ?_; (with_reducible refine (val_over.calls (wrap64 (-a1_1)) (a1_1 == (-9223372036854775808)) t1061 t1062 t1063 t1064 _ A38.out).mono ?_); rintro e w42 ⟨rfl, hb⟩; refine ⟨_, rfl, ?_⟩; replace BK1052 := kb gb1052 hb; replace BK1053 := kb gb1053 hb; replace BK1054 := kb gb1054 hb; replace HB := bst hb; (try clear hb); have := NB1053_1054.out; have := NB1054_1053.out; obtain ⟨_, _, _, _, _, _⟩ := cells3 BK1053.out))
      refine rct gb1053 103 #[.int .i64 t1061, .int .i64 t1062, .string t1063] Tryd.underlying103 ?_; exact ⟨qR, qB⟩
     rw [if_neg c37] at H; have c37b0 := beq_eq_false_iff_ne.mpr c37; have c37b1 := bne_iff_ne.mpr c37; have HC45 := Aside0.mk H; clear H
     go_upto_if 65 with (fail)
     go_cut [65] (fun v65 wc => ∃ (kq : Nat) (x65_44 : Bool), v65 = .bool x65_44 ∧ Aside0 (val_Reckon.j2 kq a0 a0 x65_44 a1_0 a1_1 a1_2 x1055000_3 x1055001_3 x1055002_3 = some (r1, r2, r3, r4)) ∧ Aside0 (kq ≤ kj13) ∧ Aside0 (wc.heap[gb1052]? = some (.cells #[.int .i64 a1_0, .int .i64 a1_1, .string a1_2] 103 (0, 0))) ∧ Aside0 (wc.heap[gb1053]? = some (.cells #[.int .i64 0, .int .i64 0, .string (⟨#[]⟩ : ByteArray)] 103 (0, 0))) ∧ Aside0 (wc.heap[gb1054]? = some (.cells #[.int .i64 x1055000_3, .int .i64 x1055001_3, .string x1055002_3] 103 (0, 0))) ∧ Aside0 (Below w.heap.size w wc))
     case first =>
      have H := HC45.out; clear HC45
      by_cases c46 : a0 = 8
      ·rw [if_pos c46] at H; have c46b0 := beq_iff_eq.mpr c46; have c46b1 := bne_eq_false_iff_eq.mpr c46; clear c46; (first | rw [c46b0] | (simp only [i64_w, i32_w]; rw [c46b0]) | skip); have H' := Aside0.mk H; clear H
       go_wp2
       go_meet
       case rel => exact ⟨_, ((a0 == 8)), qE, H', ⟨by have := HJ3.out; have := HJ13.out; first | omega | exact Nat.le_refl _⟩, ⟨qK⟩, ⟨qK⟩, ⟨qK⟩, ⟨qB⟩⟩
      rw [if_neg c46] at H; have c46b0 := beq_eq_false_iff_ne.mpr c46; have c46b1 := bne_iff_ne.mpr c46; (first | rw [c46b0] | (simp only [i64_w, i32_w]; rw [c46b0]) | skip)
      by_cases c47 : a0 = 9
      ·rw [if_pos c47] at H; have c47b0 := beq_iff_eq.mpr c47; have c47b1 := bne_eq_false_iff_eq.mpr c47; clear c47; have H' := Aside0.mk H; clear H
       go_wp2
       go_meet
       case rel => exact ⟨_, ((a0 == 9)), qE, H', ⟨by have := HJ3.out; have := HJ13.out; first | omega | exact Nat.le_refl _⟩, ⟨qK⟩, ⟨qK⟩, ⟨qK⟩, ⟨qB⟩⟩
      rw [if_neg c47] at H; have c47b0 := beq_eq_false_iff_ne.mpr c47; have c47b1 := bne_iff_ne.mpr c47
      by_cases c48 : a0 = 10
      ·rw [if_pos c48] at H; have c48b0 := beq_iff_eq.mpr c48; have c48b1 := bne_eq_false_iff_eq.mpr c48; clear c48; have H' := Aside0.mk H; clear H
       go_wp2
       go_meet
       case rel => exact ⟨_, ((a0 == 10)), qE, H', ⟨by have := HJ3.out; have := HJ13.out; first | omega | exact Nat.le_refl _⟩, ⟨qK⟩, ⟨qK⟩, ⟨qK⟩, ⟨qB⟩⟩
      rw [if_neg c48] at H; have c48b0 := beq_eq_false_iff_ne.mpr c48; have c48b1 := bne_iff_ne.mpr c48; have H' := Aside0.mk H; clear H
      go_wp2
      go_meet
      case rel => exact ⟨_, ((a0 == 11)), qE, H', ⟨by have := HJ3.out; have := HJ13.out; first | omega | exact Nat.le_refl _⟩, ⟨qK⟩, ⟨qK⟩, ⟨qK⟩, ⟨qB⟩⟩
     case rest =>
      clear HC45
      try clear p1 p1
      try clear q1 q1
      try clear hx1
      try clear qi1
      try clear p2 p2
      try clear p6
      try clear p10 p10
      try clear q10 q10
      try clear hx10
      try clear qi10
      try clear hx1055_0
      try clear hx1055_1
      try clear hx1055_2
      try clear p1055
      try clear q1055
      obtain ⟨kq, x65_44, rfl, HA, HJ44, BK1052, BK1053, BK1054, HB⟩ := hcut; cases kq with
      | zero => exact absurd HA.out (by simp [val_Reckon.j2])
      | succ kj44 =>
       have H := HA.out; clear HA; simp only [val_Reckon.j2] at H
       by_cases c49 : x65_44 = true
       ·subst c49; rw [if_pos rfl] at H; replace H := Option.bind_eq_some_iff.mp H; obtain ⟨t1065, A500, H⟩ := H; (try dsimp -simprocs only at H); have A50 := Aside0.mk A500; clear A500; replace H := Option.bind_eq_some_iff.mp H; obtain ⟨⟨t1066, t1067, t1068⟩, A510, H⟩ := H; (try dsimp -simprocs only at H); have A51 := Aside0.mk A510; clear A510; simp only [Option.some.injEq, Prod.mk.injEq] at H; obtain ⟨rfl, rfl, rfl, rfl⟩ := H; have := NB1052_1053.out; have := NB1053_1052.out; have := NB1052_1054.out; have := NB1054_1052.out; obtain ⟨_, _, _, _, _, _⟩ := cells3 BK1052.out; have := NB1054_1053.out; have := NB1053_1054.out; obtain ⟨_, _, _, _, _, _⟩ := cells3 BK1054.out
        go_wp2_with (first | ((with_reducible refine gc 148 rfl ?_); refine gl (some 73) #[.agg #[.int .i64 a1_0, .int .i64 a1_1, .string a1_2], .agg #[.int .i64 x1055000_3, .int .i64 x1055001_3, .string x1055002_3]] Tryd.func148 ?_; (with_reducible refine (val_compare.calls kj44 a1_0 a1_1 a1_2 x1055000_3 x1055001_3 x1055002_3 t1065 _ A50.out).mono ?_); rintro e w57 ⟨rfl, hb⟩; refine ⟨_, rfl, ?_⟩; replace BK1052 := kb gb1052 hb; replace BK1053 := kb gb1053 hb; replace BK1054 := kb gb1054 hb; replace HB := bst hb; (try clear hb)) | ((with_reducible refine gc 147 rfl ?_); refine gl (some 74) #[.int .i64 a0, .int .i64 t1065] Tryd.func147 ?_; (with_reducible refine (val_order.calls a0 t1065 t1066 t1067 t1068 _ A51.out).mono ?_); rintro e w58 ⟨rfl, hb⟩; refine ⟨_, rfl, ?_⟩; replace BK1052 := kb gb1052 hb; replace BK1053 := kb gb1053 hb; replace BK1054 := kb gb1054 hb; replace HB := bst hb; (try clear hb); obtain ⟨_, _, _, _, _, _⟩ := cells3 BK1053.out))
        refine rct gb1053 103 #[.int .i64 t1066, .int .i64 t1067, .string t1068] Tryd.underlying103 ?_; exact ⟨qR, qB⟩
       replace c49 := Bool.eq_false_iff.mpr c49; subst c49; rw [if_neg (show ¬ (false = true) by decide)] at H
       by_cases c60 : a0 = 12
       ·rw [if_pos c60] at H; have c60b0 := beq_iff_eq.mpr c60; have c60b1 := bne_eq_false_iff_eq.mpr c60; clear c60; replace H := Option.bind_eq_some_iff.mp H; obtain ⟨⟨t1069, t1070, t1071⟩, A610, H⟩ := H; (try dsimp -simprocs only at H); have A61 := Aside0.mk A610; clear A610; simp only [Option.some.injEq, Prod.mk.injEq] at H; obtain ⟨rfl, rfl, rfl, rfl⟩ := H; have := NB1052_1053.out; have := NB1053_1052.out; have := NB1052_1054.out; have := NB1054_1052.out; obtain ⟨_, _, _, _, _, _⟩ := cells3 BK1052.out; have := NB1054_1053.out; have := NB1053_1054.out; obtain ⟨_, _, _, _, _, _⟩ := cells3 BK1054.out
        go_wp2_with (first | ((with_reducible refine gc 65 rfl ?_); refine gl (some 80) #[.bool (a1_0 == x1055000_3 && (a1_1 == x1055001_3 && (a1_2.toList == x1055002_3.toList)))] Tryd.func65 ?_; (with_reducible refine (val_Truth.calls (a1_0 == x1055000_3 && (a1_1 == x1055001_3 && (a1_2.toList == x1055002_3.toList))) t1069 t1070 t1071 _ A61.out).mono ?_); rintro e w67 ⟨rfl, hb⟩; refine ⟨_, rfl, ?_⟩; replace BK1052 := kb gb1052 hb; replace BK1053 := kb gb1053 hb; replace BK1054 := kb gb1054 hb; replace HB := bst hb; (try clear hb); obtain ⟨_, _, _, _, _, _⟩ := cells3 BK1053.out))
        refine rct gb1053 103 #[.int .i64 t1069, .int .i64 t1070, .string t1071] Tryd.underlying103 ?_; exact ⟨qR, qB⟩
       rw [if_neg c60] at H; have c60b0 := beq_eq_false_iff_ne.mpr c60; have c60b1 := bne_iff_ne.mpr c60
       by_cases c69 : a0 = 13
       ·rw [if_pos c69] at H; have c69b0 := beq_iff_eq.mpr c69; have c69b1 := bne_eq_false_iff_eq.mpr c69; clear c69; replace H := Option.bind_eq_some_iff.mp H; obtain ⟨⟨t1072, t1073, t1074⟩, A700, H⟩ := H; (try dsimp -simprocs only at H); have A70 := Aside0.mk A700; clear A700; simp only [Option.some.injEq, Prod.mk.injEq] at H; obtain ⟨rfl, rfl, rfl, rfl⟩ := H; have := NB1052_1053.out; have := NB1053_1052.out; have := NB1052_1054.out; have := NB1054_1052.out; obtain ⟨_, _, _, _, _, _⟩ := cells3 BK1052.out; have := NB1054_1053.out; have := NB1053_1054.out; obtain ⟨_, _, _, _, _, _⟩ := cells3 BK1054.out
        go_wp2_with (first | ((with_reducible refine gc 65 rfl ?_); refine gl (some 86) #[.bool (!(a1_0 == x1055000_3) || (!(a1_1 == x1055001_3) || (!(a1_2.toList == x1055002_3.toList))))] Tryd.func65 ?_; (with_reducible refine (val_Truth.calls (!(a1_0 == x1055000_3) || (!(a1_1 == x1055001_3) || (!(a1_2.toList == x1055002_3.toList)))) t1072 t1073 t1074 _ A70.out).mono ?_); rintro e w76 ⟨rfl, hb⟩; refine ⟨_, rfl, ?_⟩; replace BK1052 := kb gb1052 hb; replace BK1053 := kb gb1053 hb; replace BK1054 := kb gb1054 hb; replace HB := bst hb; (try clear hb); obtain ⟨_, _, _, _, _, _⟩ := cells3 BK1053.out))
        refine rct gb1053 103 #[.int .i64 t1072, .int .i64 t1073, .string t1074] Tryd.underlying103 ?_; exact ⟨qR, qB⟩
       rw [if_neg c69] at H; have c69b0 := beq_eq_false_iff_ne.mpr c69; have c69b1 := bne_iff_ne.mpr c69
       by_cases c78 : a0 = 14
       ·rw [if_pos c78] at H; have c78b0 := beq_iff_eq.mpr c78; have c78b1 := bne_eq_false_iff_eq.mpr c78; clear c78
        by_cases c79 : a1_1 = 0
        ·rw [if_pos c79] at H; have c79b0 := beq_iff_eq.mpr c79; have c79b1 := bne_eq_false_iff_eq.mpr c79; clear c79; replace H := Option.bind_eq_some_iff.mp H; obtain ⟨⟨t1075, t1076, t1077⟩, A800, H⟩ := H; (try dsimp -simprocs only at H); have A80 := Aside0.mk A800; clear A800; simp only [Option.some.injEq, Prod.mk.injEq] at H; obtain ⟨rfl, rfl, rfl, rfl⟩ := H; have := NB1052_1053.out; have := NB1053_1052.out; have := NB1052_1054.out; have := NB1054_1052.out; obtain ⟨_, _, _, _, _, _⟩ := cells3 BK1052.out
         go_wp2_with (first | ((with_reducible refine gc 65 rfl ?_); refine gl (some 97) #[.bool false] Tryd.func65 ?_; (with_reducible refine (val_Truth.calls false t1075 t1076 t1077 _ A80.out).mono ?_); rintro e w84 ⟨rfl, hb⟩; refine ⟨_, rfl, ?_⟩; replace BK1052 := kb gb1052 hb; replace BK1053 := kb gb1053 hb; replace BK1054 := kb gb1054 hb; replace HB := bst hb; (try clear hb); have := NB1053_1054.out; have := NB1054_1053.out; obtain ⟨_, _, _, _, _, _⟩ := cells3 BK1053.out))
         refine rct gb1053 103 #[.int .i64 t1075, .int .i64 t1076, .string t1077] Tryd.underlying103 ?_; exact ⟨qR, qB⟩
        rw [if_neg c79] at H; have c79b0 := beq_eq_false_iff_ne.mpr c79; have c79b1 := bne_iff_ne.mpr c79; replace H := Option.bind_eq_some_iff.mp H; obtain ⟨⟨t1078, t1079, t1080⟩, A870, H⟩ := H; (try dsimp -simprocs only at H); have A87 := Aside0.mk A870; clear A870; simp only [Option.some.injEq, Prod.mk.injEq] at H; obtain ⟨rfl, rfl, rfl, rfl⟩ := H; have := NB1052_1053.out; have := NB1053_1052.out; have := NB1052_1054.out; have := NB1054_1052.out; obtain ⟨_, _, _, _, _, _⟩ := cells3 BK1052.out; have := NB1054_1053.out; have := NB1053_1054.out; obtain ⟨_, _, _, _, _, _⟩ := cells3 BK1054.out
        go_wp2_with (first | ((with_reducible refine gc 65 rfl ?_); refine gl (some 97) #[.bool (x1055001_3 != 0)] Tryd.func65 ?_; (with_reducible refine (val_Truth.calls (x1055001_3 != 0) t1078 t1079 t1080 _ A87.out).mono ?_); rintro e w93 ⟨rfl, hb⟩; refine ⟨_, rfl, ?_⟩; replace BK1052 := kb gb1052 hb; replace BK1053 := kb gb1053 hb; replace BK1054 := kb gb1054 hb; replace HB := bst hb; (try clear hb); obtain ⟨_, _, _, _, _, _⟩ := cells3 BK1053.out))
        refine rct gb1053 103 #[.int .i64 t1078, .int .i64 t1079, .string t1080] Tryd.underlying103 ?_; exact ⟨qR, qB⟩
       rw [if_neg c78] at H; have c78b0 := beq_eq_false_iff_ne.mpr c78; have c78b1 := bne_iff_ne.mpr c78
       by_cases c95 : a0 = 15
       ·rw [if_pos c95] at H; have c95b0 := beq_iff_eq.mpr c95; have c95b1 := bne_eq_false_iff_eq.mpr c95; clear c95
        by_cases c96 : a1_1 = 0
        ·rw [if_pos c96] at H; have c96b0 := beq_iff_eq.mpr c96; have c96b1 := bne_eq_false_iff_eq.mpr c96; clear c96; replace H := Option.bind_eq_some_iff.mp H; obtain ⟨⟨t1081, t1082, t1083⟩, A970, H⟩ := H; (try dsimp -simprocs only at H); have A97 := Aside0.mk A970; clear A970; simp only [Option.some.injEq, Prod.mk.injEq] at H; obtain ⟨rfl, rfl, rfl, rfl⟩ := H; have := NB1052_1053.out; have := NB1053_1052.out; have := NB1052_1054.out; have := NB1054_1052.out; obtain ⟨_, _, _, _, _, _⟩ := cells3 BK1052.out; have := NB1054_1053.out; have := NB1053_1054.out; obtain ⟨_, _, _, _, _, _⟩ := cells3 BK1054.out
         go_wp2_with (first | ((with_reducible refine gc 65 rfl ?_); refine gl (some 108) #[.bool (x1055001_3 != 0)] Tryd.func65 ?_; (with_reducible refine (val_Truth.calls (x1055001_3 != 0) t1081 t1082 t1083 _ A97.out).mono ?_); rintro e w103 ⟨rfl, hb⟩; refine ⟨_, rfl, ?_⟩; replace BK1052 := kb gb1052 hb; replace BK1053 := kb gb1053 hb; replace BK1054 := kb gb1054 hb; replace HB := bst hb; (try clear hb); obtain ⟨_, _, _, _, _, _⟩ := cells3 BK1053.out))
         refine rct gb1053 103 #[.int .i64 t1081, .int .i64 t1082, .string t1083] Tryd.underlying103 ?_; exact ⟨qR, qB⟩
        rw [if_neg c96] at H; have c96b0 := beq_eq_false_iff_ne.mpr c96; have c96b1 := bne_iff_ne.mpr c96; replace H := Option.bind_eq_some_iff.mp H; obtain ⟨⟨t1084, t1085, t1086⟩, A1050, H⟩ := H; (try dsimp -simprocs only at H); have A105 := Aside0.mk A1050; clear A1050; simp only [Option.some.injEq, Prod.mk.injEq] at H; obtain ⟨rfl, rfl, rfl, rfl⟩ := H; have := NB1052_1053.out; have := NB1053_1052.out; have := NB1052_1054.out; have := NB1054_1052.out; obtain ⟨_, _, _, _, _, _⟩ := cells3 BK1052.out
        go_wp2_with (first | ((with_reducible refine gc 65 rfl ?_); refine gl (some 108) #[.bool true] Tryd.func65 ?_; (with_reducible refine (val_Truth.calls true t1084 t1085 t1086 _ A105.out).mono ?_); rintro e w109 ⟨rfl, hb⟩; refine ⟨_, rfl, ?_⟩; replace BK1052 := kb gb1052 hb; replace BK1053 := kb gb1053 hb; replace BK1054 := kb gb1054 hb; replace HB := bst hb; (try clear hb); have := NB1053_1054.out; have := NB1054_1053.out; obtain ⟨_, _, _, _, _, _⟩ := cells3 BK1053.out))
        refine rct gb1053 103 #[.int .i64 t1084, .int .i64 t1085, .string t1086] Tryd.underlying103 ?_; exact ⟨qR, qB⟩
       rw [if_neg c95] at H; have c95b0 := beq_eq_false_iff_ne.mpr c95; have c95b1 := bne_iff_ne.mpr c95
       by_cases c112 : a0 = 6
       ·rw [if_pos c112] at H; have c112b0 := beq_iff_eq.mpr c112; have c112b1 := bne_eq_false_iff_eq.mpr c112; clear c112
        by_cases c113 : a1_0 = 3
        ·rw [if_pos c113] at H; have c113b0 := beq_iff_eq.mpr c113; have c113b1 := bne_eq_false_iff_eq.mpr c113; clear c113; replace H := Option.bind_eq_some_iff.mp H; obtain ⟨⟨t1087, t1088, t1089, t1090⟩, A1140, H⟩ := H; (try dsimp -simprocs only at H); have A114 := Aside0.mk A1140; clear A1140; simp only [Option.some.injEq, Prod.mk.injEq] at H; obtain ⟨rfl, rfl, rfl, rfl⟩ := H; have := NB1052_1053.out; have := NB1053_1052.out; have := NB1052_1054.out; have := NB1054_1052.out; obtain ⟨_, _, _, _, _, _⟩ := cells3 BK1052.out; have := NB1054_1053.out; have := NB1053_1054.out; obtain ⟨_, _, _, _, _, _⟩ := cells3 BK1054.out
         go_wp2_with (first | ((with_reducible refine gc 149 rfl ?_); refine gl (some 118) #[.string a1_2, .string x1055002_3] Tryd.func149 ?_; (with_reducible refine (val_join.calls a1_2 x1055002_3 t1087 t1088 t1089 t1090 _ A114.out).mono ?_); rintro e w120 ⟨rfl, hb⟩; refine ⟨_, rfl, ?_⟩; replace BK1052 := kb gb1052 hb; replace BK1053 := kb gb1053 hb; replace BK1054 := kb gb1054 hb; replace HB := bst hb; (try clear hb); obtain ⟨_, _, _, _, _, _⟩ := cells3 BK1053.out))
         refine rct gb1053 103 #[.int .i64 t1087, .int .i64 t1088, .string t1089] Tryd.underlying103 ?_; exact ⟨qR, qB⟩
        rw [if_neg c113] at H; have c113b0 := beq_eq_false_iff_ne.mpr c113; have c113b1 := bne_iff_ne.mpr c113; replace H := Option.bind_eq_some_iff.mp H; obtain ⟨⟨t1091, t1092, t1093, t1094⟩, A1220, H⟩ := H; (try dsimp -simprocs only at H); have A122 := Aside0.mk A1220; clear A1220; simp only [Option.some.injEq, Prod.mk.injEq] at H; obtain ⟨rfl, rfl, rfl, rfl⟩ := H; have := NB1052_1053.out; have := NB1053_1052.out; have := NB1052_1054.out; have := NB1054_1052.out; obtain ⟨_, _, _, _, _, _⟩ := cells3 BK1052.out; have := NB1054_1053.out; have := NB1053_1054.out; obtain ⟨_, _, _, _, _, _⟩ := cells3 BK1054.out
        go_wp2_with (first | ((with_reducible refine gc 150 rfl ?_); refine gl (some 126) #[.int .i64 a0, .int .i64 a1_1, .int .i64 x1055001_3] Tryd.func150 ?_; (with_reducible refine (val_number.calls kj44 a0 a1_1 x1055001_3 t1091 t1092 t1093 t1094 _ A122.out).mono ?_); rintro e w128 ⟨rfl, hb⟩; refine ⟨_, rfl, ?_⟩; replace BK1052 := kb gb1052 hb; replace BK1053 := kb gb1053 hb; replace BK1054 := kb gb1054 hb; replace HB := bst hb; (try clear hb); obtain ⟨_, _, _, _, _, _⟩ := cells3 BK1053.out))
        refine rct gb1053 103 #[.int .i64 t1091, .int .i64 t1092, .string t1093] Tryd.underlying103 ?_; exact ⟨qR, qB⟩
       rw [if_neg c112] at H; have c112b0 := beq_eq_false_iff_ne.mpr c112; have c112b1 := bne_iff_ne.mpr c112; replace H := Option.bind_eq_some_iff.mp H; obtain ⟨⟨t1095, t1096, t1097, t1098⟩, A1300, H⟩ := H; (try dsimp -simprocs only at H); have A130 := Aside0.mk A1300; clear A1300; simp only [Option.some.injEq, Prod.mk.injEq] at H; obtain ⟨rfl, rfl, rfl, rfl⟩ := H; have := NB1052_1053.out; have := NB1053_1052.out; have := NB1052_1054.out; have := NB1054_1052.out; obtain ⟨_, _, _, _, _, _⟩ := cells3 BK1052.out; have := NB1054_1053.out; have := NB1053_1054.out; obtain ⟨_, _, _, _, _, _⟩ := cells3 BK1054.out
       go_wp2_with (first | ((with_reducible refine gc 150 rfl ?_); refine gl (some 126) #[.int .i64 a0, .int .i64 a1_1, .int .i64 x1055001_3] Tryd.func150 ?_; (with_reducible refine (val_number.calls kj44 a0 a1_1 x1055001_3 t1095 t1096 t1097 t1098 _ A130.out).mono ?_); rintro e w136 ⟨rfl, hb⟩; refine ⟨_, rfl, ?_⟩; replace BK1052 := kb gb1052 hb; replace BK1053 := kb gb1053 hb; replace BK1054 := kb gb1054 hb; replace HB := bst hb; (try clear hb); obtain ⟨_, _, _, _, _, _⟩ := cells3 BK1053.out))
       refine rct gb1053 103 #[.int .i64 t1095, .int .i64 t1096, .string t1097] Tryd.underlying103 ?_; exact ⟨qR, qB⟩
end Go.Proofs.YtbngfhlciebeeaaDoor.L
end
section
namespace Go.Proofs.YtbngfhlciebeeaaDoor.L
open Go.RowKit Go.Proofs.YtbngfhlciebeeaaDoorW.PrintWords Go.Proofs.YtbngfhlciebeeaaDoorW.PrintLast Go.Proofs.YtbngfhlciebeeaaDoorW.PrintMore
attribute [local go_sem] max2_int min2_int max_two min_two max_three min_three max_four min_four   -- for this text's walks alone
set_option linter.unusedVariables false
set_option linter.unusedSimpArgs false
def val_Value_Yes.f (a0_0 : Int) (a0_1 : Int) (a0_2 : ByteArray) : Option (Bool) := if a0_0 = 2 then (some (a0_1 != 0)) else (some false)
set_option maxHeartbeats 8000000 in
set_option maxRecDepth 100000 in
theorem val_Value_Yes.calls (a0_0 : Int) (a0_1 : Int) (a0_2 : ByteArray) (r : Bool) (w : World) (h : val_Value_Yes.f a0_0 a0_1 a0_2 = some r) :
  Calls Tryd.prog 100 #[.agg #[.int .i64 a0_0, .int .i64 a0_1, .string a0_2]] w fun e w' => e = .returned (.bool r) ∧ Below w.heap.size w w' := by
 have hu103 := Tryd.underlying103
 have HB := Aside0.mk (Below.refl w.heap.size w)
 have H : (if a0_0 = 2 then (some (a0_1 != 0)) else (some false)) = some r := h
 clear h
 by_cases c2 : a0_0 = 2
 ·rw [if_pos c2] at H
  have c2b0 := beq_iff_eq.mpr c2
  have c2b1 := bne_eq_false_iff_eq.mpr c2
  clear c2
  obtain rfl := Option.some.inj H
  go_enter Tryd.func100, Tryd.ntmps100
  go_wp2_with (first | ((with_reducible refine gd 1 rfl ?_); refine bxx 1 #[.int .i64 a0_0, .int .i64 a0_1, .string a0_2] 103 ?_; intro gb1099 w3 BK1099 GW1099 HB; obtain ⟨_, _, _, _, _, _⟩ := cells3 BK1099.out))
  go_ret
  exact ⟨qR, qB⟩
 rw [if_neg c2] at H
 have c2b0 := beq_eq_false_iff_ne.mpr c2
 have c2b1 := bne_iff_ne.mpr c2
 obtain rfl := Option.some.inj H
 go_enter Tryd.func100, Tryd.ntmps100
 go_wp2_with (first | ((with_reducible refine gd 1 rfl ?_); refine bxx 1 #[.int .i64 a0_0, .int .i64 a0_1, .string a0_2] 103 ?_; intro gb1099 w5 BK1099 GW1099 HB; obtain ⟨_, _, _, _, _, _⟩ := cells3 BK1099.out))
 go_ret
 exact ⟨qR, qB⟩
def eval_enough.f (a0 : Int) (a1_0 : Int) (a1_1 : Int) (a1_2 : ByteArray) : Option (Bool) := if a1_0 = 2 then (if a0 = 14 then ((val_Value_Yes.f a1_0 a1_1 a1_2).bind fun t1101 => (if t1101 = true then (if a0 = 15 then ((val_Value_Yes.f a1_0 a1_1 a1_2).bind fun t1102 => (some t1102)) else (some false)) else (some true))) else (if a0 = 15 then ((val_Value_Yes.f a1_0 a1_1 a1_2).bind fun t1103 => (some t1103)) else (some false))) else (some false)
set_option maxHeartbeats 8000000 in
set_option maxRecDepth 100000 in
theorem eval_enough.calls (a0 : Int) (a1_0 : Int) (a1_1 : Int) (a1_2 : ByteArray) (r : Bool) (w : World) (h : eval_enough.f a0 a1_0 a1_1 a1_2 = some r) :
  Calls Tryd.prog 125 #[.int .i64 a0, .agg #[.int .i64 a1_0, .int .i64 a1_1, .string a1_2]] w fun e w' => e = .returned (.bool r) ∧ Below w.heap.size w w' := by
 have hu103 := Tryd.underlying103
 have HB := Aside0.mk (Below.refl w.heap.size w)
 have H : (if a1_0 = 2 then (if a0 = 14 then ((val_Value_Yes.f a1_0 a1_1 a1_2).bind fun t1101 => (if t1101 = true then (if a0 = 15 then ((val_Value_Yes.f a1_0 a1_1 a1_2).bind fun t1102 => (some t1102)) else (some false)) else (some true))) else (if a0 = 15 then ((val_Value_Yes.f a1_0 a1_1 a1_2).bind fun t1103 => (some t1103)) else (some false))) else (some false)) = some r := h
 clear h
 by_cases c3 : a1_0 = 2
 ·rw [if_pos c3] at H
  have c3b0 := beq_iff_eq.mpr c3
  have c3b1 := bne_eq_false_iff_eq.mpr c3
  clear c3
  by_cases c4 : a0 = 14
  ·rw [if_pos c4] at H
   have c4b0 := beq_iff_eq.mpr c4
   have c4b1 := bne_eq_false_iff_eq.mpr c4
   clear c4
   replace H := Option.bind_eq_some_iff.mp H
   obtain ⟨t1101, A50, H⟩ := H
   (try dsimp -simprocs only at H)
   have A5 := Aside0.mk A50
   clear A50
   by_cases c6 : t1101 = true
   ·subst c6
    rw [if_pos rfl] at H
    by_cases c7 : a0 = 15
    ·rw [if_pos c7] at H; have c7b0 := beq_iff_eq.mpr c7; have c7b1 := bne_eq_false_iff_eq.mpr c7; clear c7; replace H := Option.bind_eq_some_iff.mp H; obtain ⟨t1102, A80, H⟩ := H; (try dsimp -simprocs only at H); have A8 := Aside0.mk A80; clear A80
     try (obtain rfl : t1102 = _ := Option.some.inj (A8.out.symm.trans A5.out))
     obtain rfl := Option.some.inj H
     go_enter Tryd.func125, Tryd.ntmps125
     go_wp2_with (first | ((with_reducible refine gd 3 rfl ?_); refine bxx 3 #[.int .i64 a1_0, .int .i64 a1_1, .string a1_2] 103 ?_; intro gb1100 w9 BK1100 GW1100 HB; obtain ⟨_, _, _, _, _, _⟩ := cells3 BK1100.out) | (go_at_call 100; (with_reducible refine (val_Value_Yes.calls a1_0 a1_1 a1_2 true _ A5.out).mono ?_); rintro e w11 ⟨rfl, hb⟩; replace BK1100 := kb gb1100 hb; replace HB := bst hb; (try clear hb); obtain ⟨_, _, _, _, _, _⟩ := cells3 BK1100.out) | (go_at_call 100; (with_reducible refine (val_Value_Yes.calls a1_0 a1_1 a1_2 t1102 _ A8.out).mono ?_); rintro e w13 ⟨rfl, hb⟩; replace BK1100 := kb gb1100 hb; replace HB := bst hb; (try clear hb)))
     go_ret; exact ⟨qR, qB⟩
    rw [if_neg c7] at H
    have c7b0 := beq_eq_false_iff_ne.mpr c7
    have c7b1 := bne_iff_ne.mpr c7
    obtain rfl := Option.some.inj H
    go_enter Tryd.func125, Tryd.ntmps125
    go_wp2_with (first | ((with_reducible refine gd 3 rfl ?_); refine bxx 3 #[.int .i64 a1_0, .int .i64 a1_1, .string a1_2] 103 ?_; intro gb1100 w14 BK1100 GW1100 HB; obtain ⟨_, _, _, _, _, _⟩ := cells3 BK1100.out) | (go_at_call 100; (with_reducible refine (val_Value_Yes.calls a1_0 a1_1 a1_2 true _ A5.out).mono ?_); rintro e w16 ⟨rfl, hb⟩; replace BK1100 := kb gb1100 hb; replace HB := bst hb; (try clear hb)))
    go_ret
    exact ⟨qR, qB⟩
   replace c6 := Bool.eq_false_iff.mpr c6
   subst c6
   rw [if_neg (show ¬ (false = true) by decide)] at H
   obtain rfl := Option.some.inj H
   go_enter Tryd.func125, Tryd.ntmps125
   go_wp2_with (first | ((with_reducible refine gd 3 rfl ?_); refine bxx 3 #[.int .i64 a1_0, .int .i64 a1_1, .string a1_2] 103 ?_; intro gb1100 w17 BK1100 GW1100 HB; obtain ⟨_, _, _, _, _, _⟩ := cells3 BK1100.out) | (go_at_call 100; (with_reducible refine (val_Value_Yes.calls a1_0 a1_1 a1_2 false _ A5.out).mono ?_); rintro e w19 ⟨rfl, hb⟩; replace BK1100 := kb gb1100 hb; replace HB := bst hb; (try clear hb)))
   go_ret
   exact ⟨qR, qB⟩
  rw [if_neg c4] at H
  have c4b0 := beq_eq_false_iff_ne.mpr c4
  have c4b1 := bne_iff_ne.mpr c4
  by_cases c20 : a0 = 15
  ·rw [if_pos c20] at H
   have c20b0 := beq_iff_eq.mpr c20
   have c20b1 := bne_eq_false_iff_eq.mpr c20
   clear c20
   replace H := Option.bind_eq_some_iff.mp H
   obtain ⟨t1103, A210, H⟩ := H
   (try dsimp -simprocs only at H)
   have A21 := Aside0.mk A210
   clear A210
   try (obtain rfl : t1103 = _ := Option.some.inj (A21.out.symm.trans A8.out))
   obtain rfl := Option.some.inj H
   go_enter Tryd.func125, Tryd.ntmps125
   go_wp2_with (first | ((with_reducible refine gd 3 rfl ?_); refine bxx 3 #[.int .i64 a1_0, .int .i64 a1_1, .string a1_2] 103 ?_; intro gb1100 w22 BK1100 GW1100 HB; obtain ⟨_, _, _, _, _, _⟩ := cells3 BK1100.out) | (go_at_call 100; (with_reducible refine (val_Value_Yes.calls a1_0 a1_1 a1_2 t1103 _ A21.out).mono ?_); rintro e w24 ⟨rfl, hb⟩; replace BK1100 := kb gb1100 hb; replace HB := bst hb; (try clear hb)))
   go_ret
   exact ⟨qR, qB⟩
  rw [if_neg c20] at H
  have c20b0 := beq_eq_false_iff_ne.mpr c20
  have c20b1 := bne_iff_ne.mpr c20
  obtain rfl := Option.some.inj H
  go_enter Tryd.func125, Tryd.ntmps125
  go_wp2_with (first | ((with_reducible refine gd 3 rfl ?_); refine bxx 3 #[.int .i64 a1_0, .int .i64 a1_1, .string a1_2] 103 ?_; intro gb1100 w25 BK1100 GW1100 HB; obtain ⟨_, _, _, _, _, _⟩ := cells3 BK1100.out))
  go_ret
  exact ⟨qR, qB⟩
 rw [if_neg c3] at H
 have c3b0 := beq_eq_false_iff_ne.mpr c3
 have c3b1 := bne_iff_ne.mpr c3
 obtain rfl := Option.some.inj H
 go_enter Tryd.func125, Tryd.ntmps125
 go_wp2_with (first | ((with_reducible refine gd 3 rfl ?_); refine bxx 3 #[.int .i64 a1_0, .int .i64 a1_1, .string a1_2] 103 ?_; intro gb1100 w27 BK1100 GW1100 HB; obtain ⟨_, _, _, _, _, _⟩ := cells3 BK1100.out))
 go_ret
 exact ⟨qR, qB⟩
end Go.Proofs.YtbngfhlciebeeaaDoor.L
end
section
namespace Go.Proofs.YtbngfhlciebeeaaDoor.L
set_option linter.unusedVariables false
set_option linter.unusedSimpArgs false
open Go.RowKit Go.Proofs.YtbngfhlciebeeaaDoorW.PrintWords Go.Proofs.YtbngfhlciebeeaaDoorW.PrintLast Go.Proofs.YtbngfhlciebeeaaDoorW.PrintMore
theorem bytes_ne {a b : ByteArray} (h : a ≠ b) : (a.toList == b.toList) = false := by
  rw [ByteArray.toList_eq, ByteArray.toList_eq, beq_eq_false_iff_ne]
  intro e
  apply h
  obtain ⟨⟨x⟩⟩ := a
  obtain ⟨⟨y⟩⟩ := b
  simp at e
  rw [e]
def idxVar (s : ByteArray) (xs : List S118) : Int := match xs.findIdx? (fun x => decide (x.f0 = s)) with | some j => (j : Int) | none => -1
def kind_Scope_find.f (l0 : List S118) (l1 : List ByteArray) (a1 : ByteArray) : Option (Int × Bool) :=
  if 0 ≤ idxVar a1 l0 then some ((rd_T118 l0 (idxVar a1 l0)).f1, true) else some (0, false)
def idxCell (s : ByteArray) (xs : List S116) : Int := match xs.findIdx? (fun x => decide (x.f0 = s)) with | some j => (j : Int) | none => -1
theorem idxCell_hit {s : ByteArray} {xs : List S116} {j : Nat} (hl : j < xs.length) (hno : ∀ x ∈ xs.take j, x.f0 ≠ s) (he : xs[j].f0 = s) : idxCell s xs = (j : Int) := by
  have h : xs.findIdx? (fun x => decide (x.f0 = s)) = some j := by
    rw [List.findIdx?_eq_some_iff_getElem]
    refine ⟨hl, by simpa using he, fun k hk => ?_⟩
    have := hno xs[k] (List.mem_take_iff_getElem.2 ⟨k, by omega, rfl⟩)
    simpa using this
  unfold idxCell
  rw [h]
theorem idxCell_miss {s : ByteArray} {xs : List S116} (hno : ∀ x ∈ xs, x.f0 ≠ s) : idxCell s xs = -1 := by
  have h : xs.findIdx? (fun x => decide (x.f0 = s)) = none := by
    rw [List.findIdx?_eq_none_iff]
    intro x hx
    simpa using hno x hx
  unfold idxCell
  rw [h]
theorem idxCell_lt {s : ByteArray} {xs : List S116} (h : 0 ≤ idxCell s xs) : idxCell s xs < (xs.length : Int) := by
  unfold idxCell at h ⊢
  cases hx : xs.findIdx? (fun x => decide (x.f0 = s)) with
  | none => rw [hx] at h; simp at h
  | some j =>
    rw [List.findIdx?_eq_some_iff_getElem] at hx
    obtain ⟨hl, _⟩ := hx
    simp only
    omega
set_option maxHeartbeats 8000000 in
set_option maxRecDepth 100000 in
theorem idxCell_calls (g : Nat) (s : ByteArray) (A : Option Addr) (c : Nat) (xs : List S116) (w : World) (hr : Kd.C k116 w A xs.length xs) (hc : xs.length ≤ c) (hg : w.cell? ⟨g, 0, none⟩ = some (.string s)) :
    Calls Tryd.prog 144 #[.slice A xs.length c, .func (.func 145) #[] #[.pointer (some ⟨g, 0, none⟩)]] w fun e w' => e = .returned (.int .i64 (idxCell s xs)) ∧ Below w.heap.size w w' := by
  have HR := Aside0.mk hr
  have HG := Aside0.mk hg
  have HN := hr.2.1
  clear hr hg
  go_enter Tryd.func144, Tryd.ntmps144
  go_wp2
  go_loopg [8] xs.length (fun kq v8 w' => ∃ (j : Nat), v8 = .int .i64 (j : Int) ∧ Aside0 (kq = xs.length - j) ∧ Aside0 (j ≤ xs.length) ∧ Aside0 (∀ x ∈ xs.take j, x.f0 ≠ s) ∧ Aside0 (Below w.heap.size w w'))
  case atStart => exact ⟨0, rfl, ⟨rfl⟩, ⟨Nat.zero_le _⟩, ⟨by simp⟩, ⟨Below.refl _ _⟩⟩
  case round =>
    obtain ⟨j, rfl, hk, hj, hno, HB⟩ := hrel
    by_cases hl : j < xs.length
    · have c1 : decide ((j : Int) < (xs.length : Int)) = true := decide_eq_true (by omega)
      obtain ⟨ad, eA, g0, g1, g2, g3⟩ := at_T116 (Kd.C_below HR.out HB.out) (j : Int) (by omega) (by omega)
      subst eA
      rw [Int.toNat_natCast] at g0 g1 g2 g3
      have hcap := pw_cell_below HB.out HG.out
      have ht := Aside0.mk (show rd_T116 xs (j : Int) = xs[j] by
        unfold rd_T116
        rw [Int.toNat_natCast, List.getD_eq_getElem?_getD, List.getElem?_eq_getElem hl]; rfl)
      have hcapA : (wr.alloc (.cells #[.string (rd_T116 xs (j : Int)).f0, .int .i64 (rd_T116 xs (j : Int)).f1.f0, .int .i64 (rd_T116 xs (j : Int)).f1.f1, .string (rd_T116 xs (j : Int)).f1.f2] 116)).cell? ⟨g, 0, none⟩ = some (.string s) :=
        pw_cell_below ((Below.refl wr.heap.size wr).alloc (Nat.le_refl _) _) hcap
      have hBA := Aside0.mk (HB.out.alloc HB.out.size (.cells #[.string (rd_T116 xs (j : Int)).f0, .int .i64 (rd_T116 xs (j : Int)).f1.f0, .int .i64 (rd_T116 xs (j : Int)).f1.f1, .string (rd_T116 xs (j : Int)).f1.f2] 116))
      clear hcap
      by_cases he : (rd_T116 xs (j : Int)).f0 = s
      · have c2 : ((rd_T116 xs (j : Int)).f0.toList == s.toList) = true := by rw [he]; exact beq_self_eq_true _
        have hidx := Aside0.mk (idxCell_hit hl hno.out (by rw [← ht.out]; exact he))
        clear he
        go_wp2
        go_ret
        exact ⟨by rw [hidx.out]; rfl, hBA.out⟩
      · have c2 : ((rd_T116 xs (j : Int)).f0.toList == s.toList) = false := bytes_ne he
        have hne := Aside0.mk he
        clear he
        go_wp2
        go_roundg (xs.length - (j + 1))
        case rel =>
          refine ⟨j + 1, rfl, ⟨rfl⟩, ⟨hl⟩, ⟨fun x hx => ?_⟩, hBA⟩
          rw [List.take_succ_eq_append_getElem hl] at hx
          rcases List.mem_append.1 hx with h | h
          · exact hno.out x h
          · rw [List.mem_singleton.1 h, ← ht.out]; exact hne.out
        case measure => have := hk.out; omega
    · have c1 : decide ((j : Int) < (xs.length : Int)) = false := decide_eq_false (by omega)
      have hidx := Aside0.mk (idxCell_miss (s := s) (xs := xs) (fun x hx => hno.out x (by rw [List.take_of_length_le (by omega)]; exact hx)))
      go_wp2
      go_ret
      exact ⟨by rw [hidx.out]; rfl, HB.out⟩
def eval_Env_find.f (l0 : List S116) (l1 : List ByteArray) (a1 : ByteArray) : Option (Int × Int × ByteArray × Int) :=
  if 0 ≤ idxCell a1 l0 then some ((rd_T116 l0 (idxCell a1 l0)).f1.f0, (rd_T116 l0 (idxCell a1 l0)).f1.f1, (rd_T116 l0 (idxCell a1 l0)).f1.f2, 0) else some (0, 0, ⟨#[]⟩, 24)
theorem size_up2 (w : World) (o o' : Obj) : w.heap.size ≤ ((w.alloc o).alloc o').heap.size := by rw [size_alloc1, size_alloc1]; omega
set_option maxHeartbeats 8000000 in
set_option maxRecDepth 100000 in
theorem eval_Env_find.calls (A0 : Option Addr) (c0 : Nat) (l0 : List S116) (A1 : Option Addr) (c1 : Nat) (l1 : List ByteArray) (a1 : ByteArray) (r1 r2 : Int) (r3 : ByteArray) (r4 : Int) (w : World) (hr0 : Kd.C k116 w A0 l0.length l0) (hc0 : l0.length ≤ c0) (hr1 : Kd.C Kd.string w A1 l1.length l1) (hc1 : l1.length ≤ c1) (h : eval_Env_find.f l0 l1 a1 = some (r1, r2, r3, r4)) :
    Calls Tryd.prog 123 #[.agg #[.slice A0 l0.length c0, .slice A1 l1.length c1], .string a1] w fun e w' => e = .returned (.tuple #[.agg #[.int .i64 r1, .int .i64 r2, .string r3], .int .i64 r4]) ∧ Below w.heap.size w w' := by
  have HR0 := Aside0.mk hr0
  have HC0 := Aside0.mk hc0
  clear hr0 hc0 hr1 hc1
  unfold eval_Env_find.f at h
  have HH := Aside0.mk h
  clear h
  have hB := Aside0.mk ((((Below.refl w.heap.size w).alloc (Nat.le_refl _) (.cells #[.slice A0 l0.length c0, .slice A1 l1.length c1] 98)).alloc (size_up w (.cells #[.slice A0 l0.length c0, .slice A1 l1.length c1] 98)) (.cells #[.string a1] 9)).alloc (size_up2 w (.cells #[.slice A0 l0.length c0, .slice A1 l1.length c1] 98) (.cells #[.string a1] 9)) (.cells #[.int .i64 0, .int .i64 0, .string ⟨#[]⟩] 103))
  have b2 := Aside0.mk (blk_alloc (blk_alloc (blk_new w (.cells #[.slice A0 l0.length c0, .slice A1 l1.length c1] 98)) (.cells #[.string a1] 9)) (.cells #[.int .i64 0, .int .i64 0, .string ⟨#[]⟩] 103))
  have b3 := Aside0.mk (blk_alloc (blk_new (w.alloc (.cells #[.slice A0 l0.length c0, .slice A1 l1.length c1] 98)) (.cells #[.string a1] 9)) (.cells #[.int .i64 0, .int .i64 0, .string ⟨#[]⟩] 103))
  have b4 := Aside0.mk (blk_new ((w.alloc (.cells #[.slice A0 l0.length c0, .slice A1 l1.length c1] 98)).alloc (.cells #[.string a1] 9)) (.cells #[.int .i64 0, .int .i64 0, .string ⟨#[]⟩] 103))
  rw [size_alloc1] at b3
  rw [size_alloc1, size_alloc1] at b4
  have hcap := blk_cell b3.out 0
  go_enter Tryd.func123, Tryd.ntmps123
  go_wp2_with (go_at_call 144; refine (idxCell_calls (w.heap.size + 1) a1 A0 c0 l0 _ (Kd.C_below HR0.out hB.out) HC0.out hcap).mono ?_)
  rintro e w2 ⟨rfl, hb2⟩
  have hB2 := Aside0.mk (below_step hB.out hb2)
  have b22 := Aside0.mk (blk_below b2.out hb2)
  have b42 := Aside0.mk (blk_below b4.out hb2)
  clear hcap hb2 b3 b2 b4 hB
  have e0 := blk_cell b22.out 0
  have d0 := blk_cell b42.out 0
  have d1 := blk_cell b42.out 1
  have d2 := blk_cell b42.out 2
  have f0 := blk_frozen b42.out 0
  have f1 := blk_frozen b42.out 1
  have f2 := blk_frozen b42.out 2
  have h := HH.out
  clear HH
  by_cases hx : 0 ≤ idxCell a1 l0
  · rw [if_pos hx] at h
    have hx2 := idxCell_lt hx
    generalize idxCell a1 l0 = ix at h hx hx2 ⊢
    obtain ⟨m, rfl⟩ := Int.eq_ofNat_of_zero_le hx
    have c4 : decide ((m : Int) < 0) = false := decide_eq_false (by omega)
    have c5 : decide (0 ≤ (m : Int)) = true := decide_eq_true hx
    have c6 : decide ((m : Int) < (l0.length : Int)) = true := decide_eq_true hx2
    have hm : m < l0.length := by omega
    obtain ⟨ad, eA, q0, q1, q2, q3⟩ := at_T116 (Kd.C_below HR0.out hB2.out) (m : Int) hx (by omega)
    rw [Int.toNat_natCast] at q0 q1 q2 q3
    subst eA
    simp only [Option.some.injEq, Prod.mk.injEq] at h
    obtain ⟨rfl, rfl, rfl, rfl⟩ := h
    go_wp2
    refine bodyPost_ret (results_ct rfl _ _ (w.heap.size + 2) 103 #[.int .i64 (rd_T116 l0 (m : Int)).f1.f0, .int .i64 (rd_T116 l0 (m : Int)).f1.f1, .string (rd_T116 l0 (m : Int)).f1.f2] (0, 0) _ rfl (by refine blk_put (cs := #[.int .i64 (rd_T116 l0 (m : Int)).f1.f0, .int .i64 (rd_T116 l0 (m : Int)).f1.f1, .string ⟨#[]⟩]) ?_ 2 _ rfl; refine blk_put (cs := #[.int .i64 (rd_T116 l0 (m : Int)).f1.f0, .int .i64 0, .string ⟨#[]⟩]) ?_ 1 _ rfl; refine blk_put (cs := #[.int .i64 0, .int .i64 0, .string ⟨#[]⟩]) ?_ 0 _ rfl; exact b42.out) Tryd.underlying103 rfl (by kernel_rfl)) rfl ?_
    exact ⟨rfl, below_set (below_set (below_set hB2.out (by omega)) (by omega)) (by omega)⟩
  · rw [if_neg hx] at h
    have c4 : decide (idxCell a1 l0 < 0) = true := decide_eq_true (by omega)
    simp only [Option.some.injEq, Prod.mk.injEq] at h
    obtain ⟨rfl, rfl, rfl, rfl⟩ := h
    go_wp2
    refine bodyPost_ret (results_ct rfl _ _ (w.heap.size + 2) 103 #[.int .i64 0, .int .i64 0, .string ⟨#[]⟩] (0, 0) _ rfl (by refine blk_put (cs := #[.int .i64 0, .int .i64 0, .string ⟨#[]⟩]) ?_ 2 _ rfl; refine blk_put (cs := #[.int .i64 0, .int .i64 0, .string ⟨#[]⟩]) ?_ 1 _ rfl; refine blk_put (cs := #[.int .i64 0, .int .i64 0, .string ⟨#[]⟩]) ?_ 0 _ rfl; exact b42.out) Tryd.underlying103 rfl (by kernel_rfl)) rfl ?_
    exact ⟨rfl, below_set (below_set (below_set hB2.out (by omega)) (by omega)) (by omega)⟩
end Go.Proofs.YtbngfhlciebeeaaDoor.L
end
