/- Printed and hand-written steps towards the row (TreePlays), those that it reaches. -/
import Derived.Test.YtbngfhlciebeeaaDoorTreePlaysG4
import Derived.Test.YtbngfhlciebeeaaDoorTreePlaysG5
import Derived.Test.YtbngfhlciebeeaaDoorTreePlaysG15
import Derived.Test.YtbngfhlciebeeaaDoorTreePlaysG25
import Derived.Test.YtbngfhlciebeeaaDoorTreePlaysG6
section
namespace Go.Proofs.YtbngfhlciebeeaaDoor.L
open Go.RowKit Go.Proofs.YtbngfhlciebeeaaDoorW.PrintWords Go.Proofs.YtbngfhlciebeeaaDoorW.PrintLast Go.Proofs.YtbngfhlciebeeaaDoorW.PrintMore
attribute [local go_sem] max2_int min2_int max_two min_two max_three min_three max_four min_four   -- for this text's walks alone
set_option linter.unusedVariables false
set_option linter.unusedSimpArgs false
mutual
def whirligigref22_Put.j0 : Nat → List (S65) → Int → Int → Bool → Int → Int → ByteArray → Int → Option ((List (S65)) × Int × Int)
 | 0, _, _, _, _, _, _, _, _ => none
 | k + 1, x0, x1, x2, x21, x583000, x583001, x583002, x583003 => if x21 = true then (some (x0, 0, 12)) else (if x2 < 0 then (whirligigref22_Put.j1 k x0 x1 x2 true x583000 x583001 x583002 x583003) else (if 0 ≤ x1 then (if x1 < (x0.length : Int) then (whirligigref22_Put.j1 k x0 x1 x2 (decide (x2 > ((rd_T65 x0 x1).f2))) x583000 x583001 x583002 x583003) else (none)) else (none)))
def whirligigref22_Put.j1 : Nat → List (S65) → Int → Int → Bool → Int → Int → ByteArray → Int → Option ((List (S65)) × Int × Int)
 | 0, _, _, _, _, _, _, _, _ => none
 | k + 1, x0, x1, x2, x33, x583000, x583001, x583002, x583003 => if x33 = true then (some (x0, 0, 10)) else ((whirligigref22_RightInput.f k x583000 x583001 x583002 x583003).bind fun t584 => (if t584 = true then (if x2 = 512 then (some (x0, 0, 41)) else (if 0 ≤ x1 then (if x1 < (x0.length : Int) then (whirligigref22_Put.l0 k x0 x1 x2 ([] : List (S47)) 0 x2 x583001 x583002 x583003 ((rd_T65 x0 x1).f0) ((rd_T65 x0 x1).f1) ((rd_T65 x0 x1).f2) ((rd_T65 x0 x1).f3)) else (none)) else (none))) else (some (x0, 0, 11))))
def whirligigref22_Put.l0 : Nat → List (S65) → Int → Int → List (S47) → Int → Int → Int → ByteArray → Int → Int → Int → Int → List (S47) → Option ((List (S65)) × Int × Int)
 | 0, _, _, _, _, _, _, _, _, _, _, _, _, _ => none
 | k + 1, x0, x1, x2, x12, x13, x583000, x583001, x583002, x583003, x587000, x587001, x587002, x587003 => if x13 < (x587003.length : Int) then (if 0 ≤ x13 then (if ((rd_T47 x587003 x13).f0) < x2 then (if x12.length < 3518437208883 then (whirligigref22_Put.l0 k x0 x1 x2 (x12 ++ [(⟨(rd_T47 x587003 x13).f0, (rd_T47 x587003 x13).f1, (rd_T47 x587003 x13).f2, (rd_T47 x587003 x13).f3⟩ : S47)]) (wrap64 (x13 + 1)) x583000 x583001 x583002 x583003 x587000 x587001 x587002 x587003) else (none)) else (whirligigref22_Put.l0 k x0 x1 x2 x12 (wrap64 (x13 + 1)) x583000 x583001 x583002 x583003 x587000 x587001 x587002 x587003)) else (none)) else (if x12.length < 3518437208883 then ((some (x12 ++ [(⟨x583000, x583001, x583002, x583003⟩ : S47)] : List (S47))).bind fun y592 => (if x2 = x587002 then ((whirligigref22_with.f x0 x1 x587000 x587001 (wrap64 (x2 + 1)) y592).bind fun t595 => (some (t595, x1, 0))) else (if (x0.length : Int) = 8 then (some (x0, 0, 42)) else ((whirligigref22_with.f x0 (x0.length : Int) x1 x2 (wrap64 (x2 + 1)) y592).bind fun t598 => (some (t598, (x0.length : Int), 0)))))) else (none))
end
def whirligigref22_Put.f (k : Nat) (l0 : List (S65)) (a1 : Int) (a2 : Int) (a3_0 : Int) (a3_1 : Int) (a3_2 : ByteArray) (a3_3 : Int) : Option ((List (S65)) × Int × Int) := if a1 < 0 then (whirligigref22_Put.j0 k l0 a1 a2 true a3_0 a3_1 a3_2 a3_3) else (whirligigref22_Put.j0 k l0 a1 a2 (decide (a1 ≥ (l0.length : Int))) a3_0 a3_1 a3_2 a3_3)
set_option maxHeartbeats 8000000 in
set_option maxRecDepth 100000 in
theorem whirligigref22_Put.calls (k : Nat) (P0_ : Nat → Prop) (A0 : Option Addr) (c0 : Nat) (l0 : List (S65)) (a1 : Int) (a2 : Int) (a3_0 : Int) (a3_1 : Int) (a3_2 : ByteArray) (a3_3 : Int) (r1 : List (S65)) (r2 : Int) (r3 : Int) (w : World) (hs0 : Kd.V k65 65 w w.heap.size (fun k_ => P0_ k_) (.slice A0 l0.length c0) l0) (h : whirligigref22_Put.f k l0 a1 a2 a3_0 a3_1 a3_2 a3_3 = some (r1, r2, r3)) :
  Calls Tryd.prog 48 #[.slice A0 l0.length c0, .int .i64 a1, .int .i64 a2, .agg #[.int .i64 a3_0, .int .i64 a3_1, .string a3_2, .int .i64 a3_3]] w fun e w' => ∃ v0_ : Value, e = .returned (.tuple #[v0_, .int .i64 r2, .int .i64 r3]) ∧ Kd.V k65 65 w' w.heap.size (fun k_ => (P0_ k_ ∨ w.heap.size ≤ k_)) v0_ r1 ∧ Below w.heap.size w w' := by
 have hu47 := Tryd.underlying47
 have hu65 := Tryd.underlying65
 have HO0 := Aside0.mk (show Kd.V k65 65 w w.heap.size (fun k_ => (P0_ k_ ∨ w.heap.size ≤ k_)) (.slice A0 l0.length c0) l0 from Kd.V_mono hs0 (fun k_ hk => .inl hk))
 have HB := Aside0.mk (Below.refl w.heap.size w)
 have H : (if a1 < 0 then (whirligigref22_Put.j0 k l0 a1 a2 true a3_0 a3_1 a3_2 a3_3) else (whirligigref22_Put.j0 k l0 a1 a2 (decide (a1 ≥ (l0.length : Int))) a3_0 a3_1 a3_2 a3_3)) = some (r1, r2, r3) := h
 clear h
 have HC5 := Aside0.mk H
 clear H
 go_enter Tryd.func48, Tryd.ntmps48
 go_upto_region 1 with (first | ((with_reducible refine gate_dst (N := 7) rfl ?_); (try (refine gate_guard (by rfl) ?_; dsimp only)); refine box_event ?hg (N := 7) ?hd (cs := #[.int .i64 a3_0, .int .i64 a3_1, .string a3_2, .int .i64 a3_3]) (t := 47) ?hr ?_; (case hd => rfl); (case hg => rfl); (case hr => first | (go_simp; done) | (go_simp; rfl)); intro gb582 hg w6 hbox hb; have n0_ := Aside0.mk (Kd.V_below (Kd.V_elderB (by (with_reducible repeat (first | apply Kd.V_alloc | apply Kd.V_drewN | apply Kd.V_drew)); exact HO0.out) gb582 (Nat.le_of_eq hg.symm)) hb); have n1_ := bst hb; have n2_ := Aside0.mk (hbox); have n3_ := geS hg; have n4_ := geS hg; clear HO0; clear HB; have HO0 := n0_; have HB := n1_; have BK582 := n2_; have GW582 := n3_; have GE582 := n4_; clear n0_ n1_ n2_ n3_ n4_; clear hb hbox hg))
 (try simp only [Act.put, List.setIfInBounds_toArray, List.set_cons_zero, List.set_cons_succ])
 go_cut [21] (fun v21 wc => ∃ (kq : Nat) (x21_4 : Bool), v21 = .bool x21_4 ∧ Aside0 (whirligigref22_Put.j0 kq l0 a1 a2 x21_4 a3_0 a3_1 a3_2 a3_3 = some (r1, r2, r3)) ∧ Aside0 (kq ≤ k) ∧ Aside0 (Kd.V k65 65 wc w.heap.size (fun k_ => (P0_ k_ ∨ w.heap.size ≤ k_) ∧ k_ ≠ gb582) (.slice A0 l0.length c0) l0) ∧ Aside0 (wc.heap[gb582]? = some (.cells #[.int .i64 a3_0, .int .i64 a3_1, .string a3_2, .int .i64 a3_3] 47 (0, 0))) ∧ Aside0 (Below w.heap.size w wc))
 case first =>
  have H := HC5.out
  clear HC5
  replace H := iD H
  rcases H with ⟨c7b0, H⟩ | ⟨c7b0, H⟩
  ·(first | rw [c7b0] | (simp only [i64_w, i32_w]; rw [c7b0]) | skip)
   have H' := Aside0.mk H
   clear H
   go_wp2
   go_meet
   case rel => exact ⟨_, (true), qE, H', ⟨by first | omega | exact Nat.le_refl _⟩, ⟨by (with_reducible repeat (first | apply Kd.V_alloc | apply Kd.V_drewN | apply Kd.V_drew)); exact HO0.out⟩, ⟨qK⟩, ⟨qB⟩⟩
  (first | rw [c7b0] | (simp only [i64_w, i32_w]; rw [c7b0]) | skip)
  have H' := Aside0.mk H
  clear H
  go_wp2
  go_meet
  case rel => exact ⟨_, (decide (a1 ≥ (l0.length : Int))), qE, H', ⟨by first | omega | exact Nat.le_refl _⟩, ⟨by (with_reducible repeat (first | apply Kd.V_alloc | apply Kd.V_drewN | apply Kd.V_drew)); exact HO0.out⟩, ⟨qK⟩, ⟨qB⟩⟩
 case rest =>
  clear HC5
  try clear p2
  obtain ⟨kq, x21_4, rfl, HA, HJ4, HO_0, BK582, HB⟩ := hcut
  cases kq with
  | zero => exact absurd HA.out (by simp [whirligigref22_Put.j0])
  | succ kj4 =>
   have H := HA.out
   clear HA
   simp only [whirligigref22_Put.j0] at H
   by_cases c8 : x21_4 = true
   ·subst c8
    rw [if_pos rfl] at H
    simp only [Option.some.injEq, Prod.mk.injEq] at H
    obtain ⟨rfl, rfl, rfl⟩ := H
    go_wp2
    go_ret3
    exact ⟨_, qR, by (with_reducible repeat (first | apply Kd.V_alloc | apply Kd.V_drewN | apply Kd.V_drew)); exact Kd.V_mono HO_0.out (fun _ hk => hk.1), qB⟩
   replace c8 := Bool.eq_false_iff.mpr c8
   subst c8
   rw [if_neg (show ¬ (false = true) by decide)] at H
   have HC9 := Aside0.mk H
   clear H
   go_upto_region 3 with (fail)
   go_cut [33] (fun v33 wc => ∃ (kq : Nat) (x33_8 : Bool), v33 = .bool x33_8 ∧ Aside0 (whirligigref22_Put.j1 kq l0 a1 a2 x33_8 a3_0 a3_1 a3_2 a3_3 = some (r1, r2, r3)) ∧ Aside0 (kq ≤ kj4) ∧ Aside0 (Kd.V k65 65 wc w.heap.size (fun k_ => (P0_ k_ ∨ w.heap.size ≤ k_) ∧ k_ ≠ gb582) (.slice A0 l0.length c0) l0) ∧ Aside0 (wc.heap[gb582]? = some (.cells #[.int .i64 a3_0, .int .i64 a3_1, .string a3_2, .int .i64 a3_3] 47 (0, 0))) ∧ Aside0 (Below w.heap.size w wc))
   case first =>
    have H := HC9.out
    clear HC9
    replace H := iD H
    rcases H with ⟨c10b0, H⟩ | ⟨c10b0, H⟩
    ·(first | rw [c10b0] | (simp only [i64_w, i32_w]; rw [c10b0]) | skip); have H' := Aside0.mk H; clear H
     go_wp2
     go_meet
     case rel => exact ⟨_, (true), qE, H', ⟨by have := HJ4.out; first | omega | exact Nat.le_refl _⟩, ⟨by (with_reducible repeat (first | apply Kd.V_alloc | apply Kd.V_drewN | apply Kd.V_drew)); exact HO_0.out⟩, ⟨qK⟩, ⟨qB⟩⟩
    (first | rw [c10b0] | (simp only [i64_w, i32_w]; rw [c10b0]) | skip)
    replace H := iD H
    rcases H with ⟨c11b0, H⟩ | ⟨c11b0, H⟩
    ·by_cases c12 : a1 < (l0.length : Int)
     ·rw [if_pos c12] at H; have c12b0 := decide_eq_true c12; clear c12; have H' := Aside0.mk H; clear H; have p583 : 0 ≤ (a1 : Int) := qD; have q583 : a1 < (l0.length : Int) := qD; obtain ⟨ad583, A583_3, c583_3, e583, hx583_0, hx583_1, hx583_2, hx583_3, hl583_3, hi583_3⟩ := at_T65 (Kd.V_reads' HO_0.out).2.2 a1 p583 q583; cases e583; obtain ⟨ce583, hce583, hMe583, hcc583⟩ := Kd.V_get HO_0.out z65 a1 p583 (by first | exact q583 | exact qD | (have e_ := (Kd.V_reads' HO_0.out).1; omega)); obtain ⟨ua583_3, uc583_3, rfl, ul583_3, ge583_3⟩ := k65_openF hMe583; have hv583_3 := hcc583 3 _ rfl; rw [add_field _ _ 3 (by omega)] at hv583_3; replace hv583_3 := Option.some.inj (hv583_3.symm.trans hx583_3)
      injection hv583_3 with hva_ hvn_ hvc_
      rw [hva_] at ge583_3; rw [hvc_] at ul583_3; have HL583_3 := Aside0.mk (show Kd.V k47 47 _ w.heap.size _ _ ((rd_T65 l0 a1).f3) from Kd.V_mk ul583_3 ge583_3); clear hva_ hvn_ hvc_ ge583_3 ul583_3; clear hcc583 hce583; have HR583_3 := Aside0.mk hi583_3; have HC583_3 := Aside0.mk hl583_3; clear hi583_3 hl583_3; replace p583 := eq_true p583; replace q583 := eq_true q583
      go_wp2
      go_meet
      case rel => exact ⟨_, (decide (a2 > ((rd_T65 l0 a1).f2))), qE, H', ⟨by have := HJ4.out; first | omega | exact Nat.le_refl _⟩, ⟨by (with_reducible repeat (first | apply Kd.V_alloc | apply Kd.V_drewN | apply Kd.V_drew)); exact HO_0.out⟩, ⟨qK⟩, ⟨qB⟩⟩
     rw [if_neg c12] at H; exact absurd H (by simp)
    exact absurd H (by simp)
   case rest =>
    clear HC9
    try clear p2 p2
    try clear p5
    try clear q5
    try clear hx5
    try clear hx583_0
    try clear hx583_1
    try clear hx583_2
    try clear hx583_3
    try clear p583
    try clear q583
    obtain ⟨kq, x33_8, rfl, HA, HJ8, HO_0, BK582, HB⟩ := hcut
    cases kq with
    | zero => exact absurd HA.out (by simp [whirligigref22_Put.j1])
    | succ kj8 =>
     have H := HA.out; clear HA; simp only [whirligigref22_Put.j1] at H
     by_cases c13 : x33_8 = true
     ·subst c13; rw [if_pos rfl] at H; simp only [Option.some.injEq, Prod.mk.injEq] at H; obtain ⟨rfl, rfl, rfl⟩ := H
      go_wp2
      go_ret3; exact ⟨_, qR, by (with_reducible repeat (first | apply Kd.V_alloc | apply Kd.V_drewN | apply Kd.V_drew)); exact Kd.V_mono HO_0.out (fun _ hk => hk.1), qB⟩
     replace c13 := Bool.eq_false_iff.mpr c13; subst c13; rw [if_neg (show ¬ (false = true) by decide)] at H; replace H := Option.bind_eq_some_iff.mp H; obtain ⟨t584, A140, H⟩ := H; (try dsimp -simprocs only at H); have A14 := Aside0.mk A140; clear A140
     by_cases c15 : t584 = true
     ·subst c15; rw [if_pos rfl] at H
      by_cases c16 : a2 = 512
      ·rw [if_pos c16] at H; have c16b0 := beq_iff_eq.mpr c16; have c16b1 := bne_eq_false_iff_eq.mpr c16; clear c16; simp only [Option.some.injEq, Prod.mk.injEq] at H; obtain ⟨rfl, rfl, rfl⟩ := H; obtain ⟨_, _, _, _, _, _, _, _⟩ := cells4 BK582.out
       go_wp2_with (first | ((with_reducible refine gc 34 rfl ?_); refine gl (some 36) #[.agg #[.int .i64 a3_0, .int .i64 a3_1, .string a3_2, .int .i64 a3_3]] Tryd.func34 ?_; (with_reducible refine (whirligigref22_RightInput.calls kj8 a3_0 a3_1 a3_2 a3_3 true _ A14.out).mono ?_); rintro e w18 ⟨rfl, hb⟩; refine ⟨_, rfl, ?_⟩; have n0_ := Aside0.mk (Kd.V_below (by (with_reducible repeat (first | apply Kd.V_alloc | apply Kd.V_drewN | apply Kd.V_drew)); exact HO_0.out) hb); have n1_ := kb gb582 hb; have n2_ := bst hb; clear HO_0; clear BK582; clear HB; have HO_0 := n0_; have BK582 := n1_; have HB := n2_; clear n0_ n1_ n2_; (try clear hb)))
       go_ret3; exact ⟨_, qR, by (with_reducible repeat (first | apply Kd.V_alloc | apply Kd.V_drewN | apply Kd.V_drew)); exact Kd.V_mono HO_0.out (fun _ hk => hk.1), qB⟩
      rw [if_neg c16] at H; have c16b0 := beq_eq_false_iff_ne.mpr c16; have c16b1 := bne_iff_ne.mpr c16
      by_cases c19 : 0 ≤ a1
      ·rw [if_pos c19] at H; have c19b0 := decide_eq_true c19; clear c19
       by_cases c20 : a1 < (l0.length : Int)
       ·rw [if_pos c20] at H; have c20b0 := decide_eq_true c20; clear c20; have H' := Aside0.mk H; clear H; obtain ⟨_, _, _, _, _, _, _, _⟩ := cells4 BK582.out
        go_wp2_with (first | ((with_reducible refine gc 34 rfl ?_); refine gl (some 36) #[.agg #[.int .i64 a3_0, .int .i64 a3_1, .string a3_2, .int .i64 a3_3]] Tryd.func34 ?_; (with_reducible refine (whirligigref22_RightInput.calls kj8 a3_0 a3_1 a3_2 a3_3 true _ A14.out).mono ?_); rintro e w22 ⟨rfl, hb⟩; refine ⟨_, rfl, ?_⟩; have n0_ := Aside0.mk (Kd.V_below (by (with_reducible repeat (first | apply Kd.V_alloc | apply Kd.V_drewN | apply Kd.V_drew)); exact HO_0.out) hb); have n1_ := kb gb582 hb; have n2_ := bst hb; clear HO_0; clear BK582; clear HB; have HO_0 := n0_; have BK582 := n1_; have HB := n2_; clear n0_ n1_ n2_; (try clear hb); obtain ⟨_, _, _, _, _, _, _, _⟩ := cells4 BK582.out) | ((with_reducible refine gate_store (t := 3) (p := 43) rfl ?_); refine store_event (t := 3) (p := 43) (v := ?vo_w24) (w1 := (w22.setCell ⟨gb582, 0, none⟩ (.int .i64 a2))) ?hg ?ho ?hn ?hr ?_; (case ho => rfl); (case hg => rfl); (case hn => rfl); (case hr => first | (go_simp; done) | (go_simp; rfl)); intro w24 hw; have n0_ : Aside0 (Kd.V k65 65 w24 w.heap.size (fun k_ => (P0_ k_ ∨ w.heap.size ≤ k_) ∧ k_ ≠ gb582) (.slice A0 l0.length c0) l0) := ⟨(by rw [hw]; exact (by (with_reducible repeat (first | apply Kd.V_alloc | apply Kd.V_drewN | apply Kd.V_drew)); exact Kd.V_mono (Kd.V_far (p := ⟨gb582, 0, none⟩) (Kd.V_mono HO_0.out (fun k_ hk => (⟨hk, hk.2⟩ : _ ∧ k_ ≠ gb582))) (fun _ hk => hk.2) (.int .i64 a2)) (fun _ hk => ⟨hk.1.1, hk.1.2⟩)))⟩; have n1_ : Aside0 (w24.heap[gb582]? = some (.cells #[.int .i64 a2, .int .i64 a3_1, .string a3_2, .int .i64 a3_3] 47 (0, 0))) := ⟨(by rw [hw]; exact qP)⟩; have n2_ : Aside0 (Below w.heap.size w w24) := ⟨(by rw [hw]; exact qB)⟩; clear hw; clear HO_0; clear BK582; clear HB; have HO_0 := n0_; have BK582 := n1_; have HB := n2_; clear n0_ n1_ n2_; have p585 : 0 ≤ (a1 : Int) := qD; have q585 : a1 < (l0.length : Int) := qD; obtain ⟨ad585, A585_3, c585_3, e585, hx585_0, hx585_1, hx585_2, hx585_3, hl585_3, hi585_3⟩ := at_T65 (Kd.V_reads' HO_0.out).2.2 a1 p585 q585; cases e585; obtain ⟨ce585, hce585, hMe585, hcc585⟩ := Kd.V_get HO_0.out z65 a1 p585 (by first | exact q585 | exact qD | (have e_ := (Kd.V_reads' HO_0.out).1; omega)); obtain ⟨ua585_3, uc585_3, rfl, ul585_3, ge585_3⟩ := k65_openF hMe585; have hv585_3 := hcc585 3 _ rfl; rw [add_field _ _ 3 (by omega)] at hv585_3; replace hv585_3 := Option.some.inj (hv585_3.symm.trans hx585_3); injection hv585_3 with hva_ hvn_ hvc_; rw [hva_] at ge585_3; rw [hvc_] at ul585_3; have HL585_3 := Aside0.mk (show Kd.V k47 47 _ w.heap.size _ _ ((rd_T65 l0 a1).f3) from Kd.V_mk ul585_3 ge585_3); clear hva_ hvn_ hvc_ ge585_3 ul585_3; clear hcc585 hce585; have HR585_3 := Aside0.mk hi585_3; have HC585_3 := Aside0.mk hl585_3; clear hi585_3 hl585_3; replace p585 := eq_true p585; replace q585 := eq_true q585; obtain ⟨adw_, Aw_, cw_, ew_, hyw0_, hyw1_, hyw2_, hyw3_, hlw_, hiw_⟩ := at_T65 (Kd.V_reads' hs0).2.2 a1 (of_eq_true p585) (of_eq_true q585); cases ew_; have ea_ := Option.some.inj ((pw_cell_below HB.out hyw3_).symm.trans hx585_3); injection ea_ with ea_ en_ ec_; rw [ea_] at hiw_; have HRW := Aside0.mk hiw_; clear hyw0_ hyw1_ hyw2_ hyw3_ hlw_ hiw_ en_ ec_) | ((with_reducible refine gate_dst (N := 11) rfl ?_); (try (refine gate_guard (by rfl) ?_; dsimp only)); refine box_event ?hg (N := 11) ?hd (cs := #[.int .i64 0, .int .i64 0, .int .i64 0, .slice none 0 0]) (t := 65) ?hr ?_; (case hd => rfl); (case hg => rfl); (case hr => first | (go_simp; done) | (go_simp; rfl)); intro gb586 hg w25 hbox hb; have n0_ := Aside0.mk (Kd.V_below (Kd.V_elderB (by (with_reducible repeat (first | apply Kd.V_alloc | apply Kd.V_drewN | apply Kd.V_drew)); exact HO_0.out) gb586 (Nat.le_of_eq hg.symm)) hb); have n1_ := Aside0.mk (Kd.V_below (Kd.V_elderB (by (with_reducible repeat (first | apply Kd.V_alloc | apply Kd.V_drewN | apply Kd.V_drew)); exact HL585_3.out) gb586 (Nat.le_of_eq hg.symm)) hb); have n2_ := kb gb582 hb; have n3_ := Aside0.mk (Kd.C_below (by repeat (first | (with_reducible exact HR585_3.out) | (with_reducible refine Kd.C_alloc ?_ _) | (with_reducible refine Kd.C_drewN ?_ _) | (with_reducible refine Kd.C_drew ?_) | exact HR585_3.out)) hb); have n4_ := bst hb; have n5_ := Aside0.mk (hbox); have n6_ := geS hg; have n7_ := geS hg; have n8_ := neS gb582 hg; have n9_ := neT gb582 hg; clear HO_0; clear HL585_3; clear BK582; clear HR585_3; clear HB; have HO_0 := n0_; have HL585_3 := n1_; have BK582 := n2_; have HR585_3 := n3_; have HB := n4_; have BK586 := n5_; have GW586 := n6_; have GE586 := n7_; have NB582_586 := n8_; have NB586_582 := n9_; clear n0_ n1_ n2_ n3_ n4_ n5_ n6_ n7_ n8_ n9_; clear hb hbox hg; have := NB586_582.out; have := NB582_586.out; obtain ⟨_, _, _, _, _, _, _, _⟩ := cells4 BK586.out))
        go_loopg [12, 13] kj8 (fun kq v12 v13 w' => ∃ (x12_3 : List (S47)) (x13_3 : Int), v13 = .int .i64 x13_3 ∧ Aside0 (whirligigref22_Put.l0 kq l0 a1 a2 x12_3 x13_3 a2 a3_1 a3_2 a3_3 ((rd_T65 l0 a1).f0) ((rd_T65 l0 a1).f1) ((rd_T65 l0 a1).f2) ((rd_T65 l0 a1).f3) = some (r1, r2, r3)) ∧ Aside0 (kq ≤ kj8) ∧ Aside0 (Kd.V k65 65 w' w.heap.size (fun k_ => (P0_ k_ ∨ w.heap.size ≤ k_) ∧ some k_ ≠ (v12 : Value).ownBlock ∧ k_ ≠ gb582 ∧ k_ ≠ gb586) (.slice (some ad585) l0.length c0) l0) ∧ Aside0 (Kd.R k47 47 w' w.heap.size (fun k_ => (w.heap.size ≤ k_) ∧ k_ ≠ gb582) v12 x12_3) ∧ Aside0 (w'.heap[gb582]? = some (.cells #[.int .i64 a2, .int .i64 a3_1, .string a3_2, .int .i64 a3_3] 47 (0, 0))) ∧ Aside0 (w'.heap[gb586]? = some (.cells #[.int .i64 ((rd_T65 l0 a1).f0), .int .i64 ((rd_T65 l0 a1).f1), .int .i64 ((rd_T65 l0 a1).f2), (.slice A585_3 ((rd_T65 l0 a1).f3).length c585_3)] 65 (0, 0))) ∧ Aside0 (Below w.heap.size w w'))
        case atStart => exact ⟨(([] : List (S47))), (0), qE, H', ⟨Nat.le_refl _⟩, ⟨by (with_reducible repeat (first | apply Kd.V_alloc | apply Kd.V_drewN | apply Kd.V_drew)); exact Kd.V_mono (Kd.V_far (p := ⟨gb586, 3, none⟩) (Kd.V_far (p := ⟨gb586, 2, none⟩) (Kd.V_far (p := ⟨gb586, 1, none⟩) (Kd.V_far (p := ⟨gb586, 0, none⟩) (Kd.V_mono HO_0.out (fun k_ hk => (⟨hk, hk.2⟩ : _ ∧ k_ ≠ gb586))) (fun _ hk => hk.2) (.int .i64 ((rd_T65 l0 a1).f0))) (fun _ hk => hk.2) (.int .i64 ((rd_T65 l0 a1).f1))) (fun _ hk => hk.2) (.int .i64 ((rd_T65 l0 a1).f2))) (fun _ hk => hk.2) (.slice A585_3 ((rd_T65 l0 a1).f3).length c585_3)) (fun _ hk => ⟨hk.1.1.1, ⟨(by simp [Value.ownBlock]), ⟨hk.1.1.2, hk.1.2⟩⟩⟩)⟩, ⟨by first | exact Kd.R_nil _ _ _ _ _ | exact Kd.N_nil _ _ _ _ _ | exact Kd.V_nil _ _ _ _ _ | exact Kd.Q_nil _ _ _ _ _ | exact Kd.S_nil _ _ _ _ _⟩, ⟨qK⟩, ⟨qP⟩, ⟨qB⟩⟩
        case round =>
         clear H'
         try clear p2 p2
         try clear p5 p5
         try clear q5 q5
         try clear hx5
         try clear hx583_0
         try clear hx583_1
         try clear hx583_2
         try clear hx583_3
         try clear hx585_0
         try clear hx585_1
         try clear hx585_2
         try clear hx585_3
         try clear p583
         try clear p585
         try clear q583
         try clear q585
         obtain ⟨x12_3, x13_3, rfl, HA, HK3, HO_0, HO_12, BK582, BK586, HB⟩ := hrel; cases gk with
         | zero => exact absurd HA.out (by simp [whirligigref22_Put.l0])
         | succ k3 =>
          have H := HA.out; clear HA; simp only [whirligigref22_Put.l0] at H; replace H := iD H
          rcases H with ⟨c28b0, H⟩ | ⟨c28b0, H⟩
          ·by_cases c29 : 0 ≤ x13_3
           ·rw [if_pos c29] at H; have c29b0 := decide_eq_true c29; clear c29; replace H := iD H
            rcases H with ⟨c30b0, H⟩ | ⟨c30b0, H⟩
            ·by_cases c31 : x12_3.length < 3518437208883
             ·rw [if_pos c31] at H; have LMc31 := Aside0.mk c31; clear c31; obtain ⟨y589, hy589⟩ : ∃ y_ : List (S47), y_ = (x12_3 ++ [(⟨(rd_T47 ((rd_T65 l0 a1).f3) x13_3).f0, (rd_T47 ((rd_T65 l0 a1).f3) x13_3).f1, (rd_T47 ((rd_T65 l0 a1).f3) x13_3).f2, (rd_T47 ((rd_T65 l0 a1).f3) x13_3).f3⟩ : S47)]) := ⟨_, rfl⟩; replace H : (whirligigref22_Put.l0 k3 l0 a1 a2 y589 (wrap64 (x13_3 + 1)) a2 a3_1 a3_2 a3_3 ((rd_T65 l0 a1).f0) ((rd_T65 l0 a1).f1) ((rd_T65 l0 a1).f2) ((rd_T65 l0 a1).f3)) = some (r1, r2, r3) := by first | (rw [hy589]; with_reducible exact H) | (have H2_ := (Option.bind_some _ _).symm.trans H; rw [hy589]; with_reducible exact H2_) | (have H2_ := (Option.bind_some _ _).symm.trans H; with_reducible exact H2_) | with_reducible exact H | (rw [hy589]; exact H) | exact H
              have Ny589 := Aside0.mk hy589; clear hy589; have H' := Aside0.mk H; clear H; have := NB586_582.out; have := NB582_586.out; obtain ⟨_, _, _, _, _, _, _, _⟩ := cells4 BK586.out; have p587 : 0 ≤ (x13_3 : Int) := qD; have q587 : x13_3 < (((rd_T65 l0 a1).f3).length : Int) := qD; obtain ⟨ad587, e587, hx587_0, hx587_1, hx587_2, hx587_3⟩ := at_T47 (Kd.C_below HRW.out HB.out) x13_3 p587 q587; cases e587; replace p587 := eq_true p587; replace q587 := eq_true q587; have p588 : 0 ≤ (x13_3 : Int) := qD; have q588 : x13_3 < (((rd_T65 l0 a1).f3).length : Int) := qD; obtain ⟨ad588, e588, hx588_0, hx588_1, hx588_2, hx588_3⟩ := at_T47 HRW.out x13_3 p588 q588; obtain rfl : ad587 = ad588 := (by injection e588); replace hx588_0 := pw_cell_below HB.out hx588_0; replace hx588_1 := pw_cell_below HB.out hx588_1; replace hx588_2 := pw_cell_below HB.out hx588_2; replace hx588_3 := pw_cell_below HB.out hx588_3; replace p588 := eq_true p588; replace q588 := eq_true q588
              go_wp2_with (first | ((with_reducible refine gate_builtin (b := .append) (xs := #[.tmp 63, .tmp 69]) rfl ?_); (try (refine gate_guard (by rfl) ?_; dsimp only)); at_builtin; refine Kd.R_append k47 (w0 := w) w.heap.size rfl (.tmp 63) (.tmp 69) 63 47 (.agg #[(.int .i64 0), (.int .i64 0), (.string ⟨#[]⟩), (.int .i64 0)]) 40 rfl Tryd.underlying63 info47 rfl (by decide) (by omega) u12 x12_3 (⟨(rd_T47 ((rd_T65 l0 a1).f3) x13_3).f0, (rd_T47 ((rd_T65 l0 a1).f3) x13_3).f1, (rd_T47 ((rd_T65 l0 a1).f3) x13_3).f2, (rd_T47 ((rd_T65 l0 a1).f3) x13_3).f3⟩ : S47) [.int .i64 ((rd_T47 ((rd_T65 l0 a1).f3) x13_3).f0), .int .i64 ((rd_T47 ((rd_T65 l0 a1).f3) x13_3).f1), .string ((rd_T47 ((rd_T65 l0 a1).f3) x13_3).f2), .int .i64 ((rd_T47 ((rd_T65 l0 a1).f3) x13_3).f3)] (fun k_ => (w.heap.size ≤ k_) ∧ k_ ≠ gb582) (fun _ => False) rfl rfl ?aP (fun _ hk => hk.elim) ?aF ?aO ?aB ?aS ?aL ?_; (case aP => exact k47_mkM _ _ _ (⟨(rd_T47 ((rd_T65 l0 a1).f3) x13_3).f0, (rd_T47 ((rd_T65 l0 a1).f3) x13_3).f1, (rd_T47 ((rd_T65 l0 a1).f3) x13_3).f2, (rd_T47 ((rd_T65 l0 a1).f3) x13_3).f3⟩ : S47)); (case aB => exact qB); (case aF => exact (fun k_ hk => ⟨(Nat.le_trans (below_size qB) hk), Kd.freshB (g := gb582) (o := .cells #[.int .i64 a2, .int .i64 a3_1, .string a3_2, .int .i64 a3_3] 47 (0, 0)) qK k_ hk⟩)); (case aO => exact (by (with_reducible repeat (first | apply Kd.R_alloc | apply Kd.R_drewN | apply Kd.R_drew)); exact HO_12.out)); (case aS => exact (below_size qB)); (case aL => have := LMc31.out; omega); intro v590 w34 ho hb hg hat; rw [← Ny589.out] at ho; have n0_ := Aside0.mk (Kd.V_afterv (ok := (fun k_ => (P0_ k_ ∨ w.heap.size ≤ k_) ∧ k_ ≠ gb582 ∧ k_ ≠ gb586)) (by (with_reducible repeat (first | apply Kd.V_alloc | apply Kd.V_drewN | apply Kd.V_drew)); exact Kd.V_mono HO_0.out (fun _ hk => ⟨⟨hk.1, ⟨hk.2.2.1, hk.2.2.2⟩⟩, hk.2.1⟩)) hg hat); have n1_ := Aside0.mk (blk_grown (g := gb582) (o := .cells #[.int .i64 a2, .int .i64 a3_1, .string a3_2, .int .i64 a3_3] 47 (0, 0)) qK hg (Kd.R_away HO_12.out (fun _ hk => hk.2))); have n2_ := Aside0.mk (blk_grown (g := gb586) (o := .cells #[.int .i64 ((rd_T65 l0 a1).f0), .int .i64 ((rd_T65 l0 a1).f1), .int .i64 ((rd_T65 l0 a1).f2), .slice (some ad587) ((rd_T65 l0 a1).f3).length c585_3] 65 (0, 0)) qK hg (Kd.R_ne HO_12.out BK586.out (by decide))); have n3_ := Aside0.mk (hb); have n4_ := Aside0.mk (ho); clear HO_0; clear BK582; clear BK586; clear HB; clear HO_12; have HO_0 := n0_; have BK582 := n1_; have BK586 := n2_; have HB := n3_; have HO591 := n4_; clear n0_ n1_ n2_ n3_ n4_; clear ho hb hg hat))
              go_roundg k3
              case measure => have := HJ4.out; have := HJ8.out; have := HK3.out; omega
              case rel => exact ⟨(y589), (wrap64 (x13_3 + 1)), qE, H', ⟨by have := HJ4.out; have := HJ8.out; have := HK3.out; omega⟩, ⟨by (with_reducible repeat (first | apply Kd.V_alloc | apply Kd.V_drewN | apply Kd.V_drew)); exact Kd.V_mono HO_0.out (fun _ hk => ⟨hk.1.1, ⟨hk.2, ⟨hk.1.2.1, hk.1.2.2⟩⟩⟩)⟩, ⟨by (with_reducible repeat (first | apply Kd.R_alloc | apply Kd.R_drewN | apply Kd.R_drew)); exact HO591.out⟩, ⟨qK⟩, ⟨qK⟩, ⟨qB⟩⟩
             rw [if_neg c31] at H; exact absurd H (by simp)
            have H' := Aside0.mk H; clear H; have := NB586_582.out; have := NB582_586.out; obtain ⟨_, _, _, _, _, _, _, _⟩ := cells4 BK586.out; have p587 : 0 ≤ (x13_3 : Int) := qD; have q587 : x13_3 < (((rd_T65 l0 a1).f3).length : Int) := qD; obtain ⟨ad587, e587, hx587_0, hx587_1, hx587_2, hx587_3⟩ := at_T47 (Kd.C_below HRW.out HB.out) x13_3 p587 q587; cases e587; replace p587 := eq_true p587; replace q587 := eq_true q587
            go_wp2
            go_roundg k3
            case measure => have := HJ4.out; have := HJ8.out; have := HK3.out; omega
            case rel => exact ⟨(x12_3), (wrap64 (x13_3 + 1)), qE, H', ⟨by have := HJ4.out; have := HJ8.out; have := HK3.out; omega⟩, ⟨by (with_reducible repeat (first | apply Kd.V_alloc | apply Kd.V_drewN | apply Kd.V_drew)); exact HO_0.out⟩, ⟨by (with_reducible repeat (first | apply Kd.R_alloc | apply Kd.R_drewN | apply Kd.R_drew)); exact HO_12.out⟩, ⟨qK⟩, ⟨qK⟩, ⟨qB⟩⟩
           rw [if_neg c29] at H; exact absurd H (by simp)
          by_cases c37 : x12_3.length < 3518437208883
          ·rw [if_pos c37] at H; have LMc37 := Aside0.mk c37; clear c37; obtain ⟨y592, hy592⟩ : ∃ y_ : List (S47), y_ = (x12_3 ++ [(⟨a2, a3_1, a3_2, a3_3⟩ : S47)]) := ⟨_, rfl⟩; replace H : (if a2 = ((rd_T65 l0 a1).f2) then ((whirligigref22_with.f l0 a1 ((rd_T65 l0 a1).f0) ((rd_T65 l0 a1).f1) (wrap64 (a2 + 1)) y592).bind fun t595 => (some (t595, a1, 0))) else (if (l0.length : Int) = 8 then (some (l0, 0, 42)) else ((whirligigref22_with.f l0 (l0.length : Int) a1 a2 (wrap64 (a2 + 1)) y592).bind fun t598 => (some (t598, (l0.length : Int), 0))))) = some (r1, r2, r3) := by first | (rw [hy592]; with_reducible exact H) | (have H2_ := (Option.bind_some _ _).symm.trans H; rw [hy592]; with_reducible exact H2_) | (have H2_ := (Option.bind_some _ _).symm.trans H; with_reducible exact H2_) | with_reducible exact H | (rw [hy592]; exact H) | exact H
           have Ny592 := Aside0.mk hy592; clear hy592
           by_cases c38 : a2 = ((rd_T65 l0 a1).f2)
           ·rw [if_pos c38] at H; have c38b0 := beq_iff_eq.mpr c38; have c38b1 := bne_eq_false_iff_eq.mpr c38; clear c38; replace H := Option.bind_eq_some_iff.mp H; obtain ⟨t595, A390, H⟩ := H; (try dsimp -simprocs only at H); have A39 := Aside0.mk A390; clear A390; simp only [Option.some.injEq, Prod.mk.injEq] at H; obtain ⟨rfl, rfl, rfl⟩ := H; have := NB586_582.out; have := NB582_586.out; obtain ⟨_, _, _, _, _, _, _, _⟩ := cells4 BK586.out; obtain ⟨_, _, _, _, _, _, _, _⟩ := cells4 BK582.out
            go_wp2_with (first | ((with_reducible refine gate_builtin (b := .append) (xs := #[.tmp 71, .tmp 73]) rfl ?_); (try (refine gate_guard (by rfl) ?_; dsimp only)); at_builtin; refine Kd.R_append k47 (w0 := w) w.heap.size rfl (.tmp 71) (.tmp 73) 63 47 (.agg #[(.int .i64 0), (.int .i64 0), (.string ⟨#[]⟩), (.int .i64 0)]) 40 rfl Tryd.underlying63 info47 rfl (by decide) (by omega) u12 x12_3 (⟨a2, a3_1, a3_2, a3_3⟩ : S47) [.int .i64 a2, .int .i64 a3_1, .string a3_2, .int .i64 a3_3] (fun k_ => (w.heap.size ≤ k_) ∧ k_ ≠ gb582) (fun _ => False) rfl rfl ?aP (fun _ hk => hk.elim) ?aF ?aO ?aB ?aS ?aL ?_; (case aP => exact k47_mkM _ _ _ (⟨a2, a3_1, a3_2, a3_3⟩ : S47)); (case aB => exact qB); (case aF => exact (fun k_ hk => ⟨(Nat.le_trans (below_size qB) hk), Kd.freshB (g := gb582) (o := .cells #[.int .i64 a2, .int .i64 a3_1, .string a3_2, .int .i64 a3_3] 47 (0, 0)) qK k_ hk⟩)); (case aO => exact (by (with_reducible repeat (first | apply Kd.R_alloc | apply Kd.R_drewN | apply Kd.R_drew)); exact HO_12.out)); (case aS => exact (below_size qB)); (case aL => have := LMc37.out; omega); intro v593 w43 ho hb hg hat; rw [← Ny592.out] at ho; have n0_ := Aside0.mk (Kd.V_afterv (ok := (fun k_ => (P0_ k_ ∨ w.heap.size ≤ k_) ∧ k_ ≠ gb582 ∧ k_ ≠ gb586)) (by (with_reducible repeat (first | apply Kd.V_alloc | apply Kd.V_drewN | apply Kd.V_drew)); exact Kd.V_mono HO_0.out (fun _ hk => ⟨⟨hk.1, ⟨hk.2.2.1, hk.2.2.2⟩⟩, hk.2.1⟩)) hg hat); have n1_ := Aside0.mk (blk_grown (g := gb582) (o := .cells #[.int .i64 a2, .int .i64 a3_1, .string a3_2, .int .i64 a3_3] 47 (0, 0)) qK hg (Kd.R_away HO_12.out (fun _ hk => hk.2))); have n2_ := Aside0.mk (blk_grown (g := gb586) (o := .cells #[.int .i64 ((rd_T65 l0 a1).f0), .int .i64 ((rd_T65 l0 a1).f1), .int .i64 ((rd_T65 l0 a1).f2), .slice A585_3 ((rd_T65 l0 a1).f3).length c585_3] 65 (0, 0)) qK hg (Kd.R_ne HO_12.out BK586.out (by decide))); have n3_ := Aside0.mk (hb); have n4_ := Aside0.mk (ho); clear HO_0; clear BK582; clear BK586; clear HB; clear HO_12; have HO_0 := n0_; have BK582 := n1_; have BK586 := n2_; have HB := n3_; have HO594 := n4_; clear n0_ n1_ n2_ n3_ n4_; clear ho hb hg hat; obtain ⟨_, _, _, _, _, _, _, _⟩ := cells4 BK586.out; obtain ⟨Ao45, co45, eo45⟩ := Kd.R_slice HO594.out; subst eo45) | ((with_reducible refine gc 84 rfl ?_); refine gl (some 89) #[.slice (some ad585) l0.length c0, .int .i64 a1, .agg #[.int .i64 ((rd_T65 l0 a1).f0), .int .i64 ((rd_T65 l0 a1).f1), .int .i64 (wrap64 (a2 + 1)), .slice Ao45 y592.length co45]] Tryd.func84 ?_; (with_reducible refine (whirligigref22_with.calls (fun k_ => (((P0_ k_ ∨ w.heap.size ≤ k_) ∧ (k_ ≠ gb582 ∧ k_ ≠ gb586)) ∧ some k_ ≠ (.slice Ao45 y592.length co45 : Value).ownBlock)) _ _ l0 a1 ((rd_T65 l0 a1).f0) ((rd_T65 l0 a1).f1) (wrap64 (a2 + 1)) (fun k_ => some k_ = (.slice Ao45 y592.length co45 : Value).ownBlock) _ _ y592 t595 _ ?side1 ?side2 A39.out).mono ?_); (case side1 => exact HO_0.out); (case side2 => exact Kd.R_V (Kd.R_tight rfl (Kd.R_types (HO594.out) BK586.out (by decide)))); rintro e w46 ⟨v596, rfl, ho0, hb⟩; refine ⟨_, rfl, ?_⟩; have n0_ := Aside0.mk (Kd.V_elder' (by (with_reducible repeat (first | apply Kd.V_alloc | apply Kd.V_drewN | apply Kd.V_drew)); exact HO_0.out) (Kd.N_base ho0) hb); have n1_ := rb HO594 hb; have n2_ := Aside0.mk (Kd.N_lower (Kd.N_mono (ok' := fun k_ => (P0_ k_ ∨ w.heap.size ≤ k_) ∧ k_ ≠ gb582 ∧ k_ ≠ gb586) ho0 (fun k_ hk_ => ⟨Or.elim hk_ (fun hs_ => Or.elim hs_ (fun hs_ => hs_.1.1) (fun hs_ => (.inr (((Kd.R_types (HO594.out) BK586.out (by decide)).1 k_ hs_.symm).1.1)))) (fun hn_ => (.inr (Nat.le_trans (below_size qB) hn_))), Or.elim hk_ (fun hs_ => Or.elim hs_ (fun hs_ => hs_.1.2.1) (fun hs_ => ((Kd.R_types (HO594.out) BK586.out (by decide)).1 k_ hs_.symm).1.2)) (fun hn_ => (Kd.freshB (g := gb582) (o := .cells #[.int .i64 a2, .int .i64 a3_1, .string a3_2, .int .i64 a3_3] 47 (0, 0)) qK k_ hn_)), Or.elim hk_ (fun hs_ => Or.elim hs_ (fun hs_ => hs_.1.2.2) (fun hs_ => ((Kd.R_types (HO594.out) BK586.out (by decide)).1 k_ hs_.symm).2)) (fun hn_ => (Kd.freshB (g := gb586) (o := .cells #[.int .i64 ((rd_T65 l0 a1).f0), .int .i64 ((rd_T65 l0 a1).f1), .int .i64 ((rd_T65 l0 a1).f2), .slice A585_3 ((rd_T65 l0 a1).f3).length c585_3] 65 (0, 0)) qK k_ hn_))⟩)) (below_size qB)); have n3_ := kb gb582 hb; have n4_ := kb gb586 hb; have n5_ := bst hb; clear HO_0; clear HO594; clear BK582; clear BK586; clear HB; have HO_0 := n0_; have HO594 := n1_; have HO597 := n2_; have BK582 := n3_; have BK586 := n4_; have HB := n5_; clear n0_ n1_ n2_ n3_ n4_ n5_; (try clear hb); (try clear ho0)))
            go_ret3; exact ⟨_, qR, Kd.N_V (by (with_reducible repeat (first | apply Kd.N_alloc | apply Kd.N_drewN | apply Kd.N_drew)); exact Kd.N_mono HO597.out (fun _ hk => hk.1)), qB⟩
           rw [if_neg c38] at H; have c38b0 := beq_eq_false_iff_ne.mpr c38; have c38b1 := bne_iff_ne.mpr c38
           by_cases c47 : (l0.length : Int) = 8
           ·rw [if_pos c47] at H; have c47b0 := beq_iff_eq.mpr c47; have c47b1 := bne_eq_false_iff_eq.mpr c47; clear c47; simp only [Option.some.injEq, Prod.mk.injEq] at H; obtain ⟨rfl, rfl, rfl⟩ := H; have := NB586_582.out; have := NB582_586.out; obtain ⟨_, _, _, _, _, _, _, _⟩ := cells4 BK586.out; obtain ⟨_, _, _, _, _, _, _, _⟩ := cells4 BK582.out
            go_wp2_with (first | ((with_reducible refine gate_builtin (b := .append) (xs := #[.tmp 71, .tmp 73]) rfl ?_); (try (refine gate_guard (by rfl) ?_; dsimp only)); at_builtin; refine Kd.R_append k47 (w0 := w) w.heap.size rfl (.tmp 71) (.tmp 73) 63 47 (.agg #[(.int .i64 0), (.int .i64 0), (.string ⟨#[]⟩), (.int .i64 0)]) 40 rfl Tryd.underlying63 info47 rfl (by decide) (by omega) u12 x12_3 (⟨a2, a3_1, a3_2, a3_3⟩ : S47) [.int .i64 a2, .int .i64 a3_1, .string a3_2, .int .i64 a3_3] (fun k_ => (w.heap.size ≤ k_) ∧ k_ ≠ gb582) (fun _ => False) rfl rfl ?aP (fun _ hk => hk.elim) ?aF ?aO ?aB ?aS ?aL ?_; (case aP => exact k47_mkM _ _ _ (⟨a2, a3_1, a3_2, a3_3⟩ : S47)); (case aB => exact qB); (case aF => exact (fun k_ hk => ⟨(Nat.le_trans (below_size qB) hk), Kd.freshB (g := gb582) (o := .cells #[.int .i64 a2, .int .i64 a3_1, .string a3_2, .int .i64 a3_3] 47 (0, 0)) qK k_ hk⟩)); (case aO => exact (by (with_reducible repeat (first | apply Kd.R_alloc | apply Kd.R_drewN | apply Kd.R_drew)); exact HO_12.out)); (case aS => exact (below_size qB)); (case aL => have := LMc37.out; omega); intro v593 w51 ho hb hg hat; rw [← Ny592.out] at ho; have n0_ := Aside0.mk (Kd.V_afterv (ok := (fun k_ => (P0_ k_ ∨ w.heap.size ≤ k_) ∧ k_ ≠ gb582 ∧ k_ ≠ gb586)) (by (with_reducible repeat (first | apply Kd.V_alloc | apply Kd.V_drewN | apply Kd.V_drew)); exact Kd.V_mono HO_0.out (fun _ hk => ⟨⟨hk.1, ⟨hk.2.2.1, hk.2.2.2⟩⟩, hk.2.1⟩)) hg hat); have n1_ := Aside0.mk (blk_grown (g := gb582) (o := .cells #[.int .i64 a2, .int .i64 a3_1, .string a3_2, .int .i64 a3_3] 47 (0, 0)) qK hg (Kd.R_away HO_12.out (fun _ hk => hk.2))); have n2_ := Aside0.mk (blk_grown (g := gb586) (o := .cells #[.int .i64 ((rd_T65 l0 a1).f0), .int .i64 ((rd_T65 l0 a1).f1), .int .i64 ((rd_T65 l0 a1).f2), .slice A585_3 ((rd_T65 l0 a1).f3).length c585_3] 65 (0, 0)) qK hg (Kd.R_ne HO_12.out BK586.out (by decide))); have n3_ := Aside0.mk (hb); have n4_ := Aside0.mk (ho); clear HO_0; clear BK582; clear BK586; clear HB; clear HO_12; have HO_0 := n0_; have BK582 := n1_; have BK586 := n2_; have HB := n3_; have HO594 := n4_; clear n0_ n1_ n2_ n3_ n4_; clear ho hb hg hat; obtain ⟨_, _, _, _, _, _, _, _⟩ := cells4 BK586.out))
            go_ret3; exact ⟨_, qR, by (with_reducible repeat (first | apply Kd.V_alloc | apply Kd.V_drewN | apply Kd.V_drew)); exact Kd.V_mono HO_0.out (fun _ hk => hk.1.1), qB⟩
           rw [if_neg c47] at H; have c47b0 := beq_eq_false_iff_ne.mpr c47; have c47b1 := bne_iff_ne.mpr c47; replace H := Option.bind_eq_some_iff.mp H; obtain ⟨t598, A530, H⟩ := H; (try dsimp -simprocs only at H); have A53 := Aside0.mk A530; clear A530; simp only [Option.some.injEq, Prod.mk.injEq] at H; obtain ⟨rfl, rfl, rfl⟩ := H; have := NB586_582.out; have := NB582_586.out; obtain ⟨_, _, _, _, _, _, _, _⟩ := cells4 BK586.out; obtain ⟨_, _, _, _, _, _, _, _⟩ := cells4 BK582.out
           go_wp2_with (first | ((with_reducible refine gate_builtin (b := .append) (xs := #[.tmp 71, .tmp 73]) rfl ?_); (try (refine gate_guard (by rfl) ?_; dsimp only)); at_builtin; refine Kd.R_append k47 (w0 := w) w.heap.size rfl (.tmp 71) (.tmp 73) 63 47 (.agg #[(.int .i64 0), (.int .i64 0), (.string ⟨#[]⟩), (.int .i64 0)]) 40 rfl Tryd.underlying63 info47 rfl (by decide) (by omega) u12 x12_3 (⟨a2, a3_1, a3_2, a3_3⟩ : S47) [.int .i64 a2, .int .i64 a3_1, .string a3_2, .int .i64 a3_3] (fun k_ => (w.heap.size ≤ k_) ∧ k_ ≠ gb582) (fun _ => False) rfl rfl ?aP (fun _ hk => hk.elim) ?aF ?aO ?aB ?aS ?aL ?_; (case aP => exact k47_mkM _ _ _ (⟨a2, a3_1, a3_2, a3_3⟩ : S47)); (case aB => exact qB); (case aF => exact (fun k_ hk => ⟨(Nat.le_trans (below_size qB) hk), Kd.freshB (g := gb582) (o := .cells #[.int .i64 a2, .int .i64 a3_1, .string a3_2, .int .i64 a3_3] 47 (0, 0)) qK k_ hk⟩)); (case aO => exact (by (with_reducible repeat (first | apply Kd.R_alloc | apply Kd.R_drewN | apply Kd.R_drew)); exact HO_12.out)); (case aS => exact (below_size qB)); (case aL => have := LMc37.out; omega); intro v593 w57 ho hb hg hat; rw [← Ny592.out] at ho; have n0_ := Aside0.mk (Kd.V_afterv (ok := (fun k_ => (P0_ k_ ∨ w.heap.size ≤ k_) ∧ k_ ≠ gb582 ∧ k_ ≠ gb586)) (by (with_reducible repeat (first | apply Kd.V_alloc | apply Kd.V_drewN | apply Kd.V_drew)); exact Kd.V_mono HO_0.out (fun _ hk => ⟨⟨hk.1, ⟨hk.2.2.1, hk.2.2.2⟩⟩, hk.2.1⟩)) hg hat); have n1_ := Aside0.mk (blk_grown (g := gb582) (o := .cells #[.int .i64 a2, .int .i64 a3_1, .string a3_2, .int .i64 a3_3] 47 (0, 0)) qK hg (Kd.R_away HO_12.out (fun _ hk => hk.2))); have n2_ := Aside0.mk (blk_grown (g := gb586) (o := .cells #[.int .i64 ((rd_T65 l0 a1).f0), .int .i64 ((rd_T65 l0 a1).f1), .int .i64 ((rd_T65 l0 a1).f2), .slice A585_3 ((rd_T65 l0 a1).f3).length c585_3] 65 (0, 0)) qK hg (Kd.R_ne HO_12.out BK586.out (by decide))); have n3_ := Aside0.mk (hb); have n4_ := Aside0.mk (ho); clear HO_0; clear BK582; clear BK586; clear HB; clear HO_12; have HO_0 := n0_; have BK582 := n1_; have BK586 := n2_; have HB := n3_; have HO594 := n4_; clear n0_ n1_ n2_ n3_ n4_; clear ho hb hg hat; obtain ⟨_, _, _, _, _, _, _, _⟩ := cells4 BK586.out; obtain ⟨Ao59, co59, eo59⟩ := Kd.R_slice HO594.out; subst eo59) | ((with_reducible refine gc 84 rfl ?_); refine gl (some 104) #[.slice (some ad585) l0.length c0, .int .i64 (l0.length : Int), .agg #[.int .i64 a1, .int .i64 a2, .int .i64 (wrap64 (a2 + 1)), .slice Ao59 y592.length co59]] Tryd.func84 ?_; (with_reducible refine (whirligigref22_with.calls (fun k_ => (((P0_ k_ ∨ w.heap.size ≤ k_) ∧ (k_ ≠ gb582 ∧ k_ ≠ gb586)) ∧ some k_ ≠ (.slice Ao59 y592.length co59 : Value).ownBlock)) _ _ l0 (l0.length : Int) a1 a2 (wrap64 (a2 + 1)) (fun k_ => some k_ = (.slice Ao59 y592.length co59 : Value).ownBlock) _ _ y592 t598 _ ?side1 ?side2 A53.out).mono ?_); (case side1 => exact HO_0.out); (case side2 => exact Kd.R_V (Kd.R_tight rfl (Kd.R_types (HO594.out) BK586.out (by decide)))); rintro e w60 ⟨v599, rfl, ho0, hb⟩; refine ⟨_, rfl, ?_⟩; have n0_ := Aside0.mk (Kd.V_elder' (by (with_reducible repeat (first | apply Kd.V_alloc | apply Kd.V_drewN | apply Kd.V_drew)); exact HO_0.out) (Kd.N_base ho0) hb); have n1_ := rb HO594 hb; have n2_ := Aside0.mk (Kd.N_lower (Kd.N_mono (ok' := fun k_ => (P0_ k_ ∨ w.heap.size ≤ k_) ∧ k_ ≠ gb582 ∧ k_ ≠ gb586) ho0 (fun k_ hk_ => ⟨Or.elim hk_ (fun hs_ => Or.elim hs_ (fun hs_ => hs_.1.1) (fun hs_ => (.inr (((Kd.R_types (HO594.out) BK586.out (by decide)).1 k_ hs_.symm).1.1)))) (fun hn_ => (.inr (Nat.le_trans (below_size qB) hn_))), Or.elim hk_ (fun hs_ => Or.elim hs_ (fun hs_ => hs_.1.2.1) (fun hs_ => ((Kd.R_types (HO594.out) BK586.out (by decide)).1 k_ hs_.symm).1.2)) (fun hn_ => (Kd.freshB (g := gb582) (o := .cells #[.int .i64 a2, .int .i64 a3_1, .string a3_2, .int .i64 a3_3] 47 (0, 0)) qK k_ hn_)), Or.elim hk_ (fun hs_ => Or.elim hs_ (fun hs_ => hs_.1.2.2) (fun hs_ => ((Kd.R_types (HO594.out) BK586.out (by decide)).1 k_ hs_.symm).2)) (fun hn_ => (Kd.freshB (g := gb586) (o := .cells #[.int .i64 ((rd_T65 l0 a1).f0), .int .i64 ((rd_T65 l0 a1).f1), .int .i64 ((rd_T65 l0 a1).f2), .slice A585_3 ((rd_T65 l0 a1).f3).length c585_3] 65 (0, 0)) qK k_ hn_))⟩)) (below_size qB)); have n3_ := kb gb582 hb; have n4_ := kb gb586 hb; have n5_ := bst hb; clear HO_0; clear HO594; clear BK582; clear BK586; clear HB; have HO_0 := n0_; have HO594 := n1_; have HO600 := n2_; have BK582 := n3_; have BK586 := n4_; have HB := n5_; clear n0_ n1_ n2_ n3_ n4_ n5_; (try clear hb); (try clear ho0)))
           go_ret3; exact ⟨_, qR, Kd.N_V (by (with_reducible repeat (first | apply Kd.N_alloc | apply Kd.N_drewN | apply Kd.N_drew)); exact Kd.N_mono HO600.out (fun _ hk => hk.1)), qB⟩
          rw [if_neg c37] at H; exact absurd H (by simp)
       rw [if_neg c20] at H; exact absurd H (by simp)
      rw [if_neg c19] at H; exact absurd H (by simp)
     replace c15 := Bool.eq_false_iff.mpr c15; subst c15; rw [if_neg (show ¬ (false = true) by decide)] at H; simp only [Option.some.injEq, Prod.mk.injEq] at H; obtain ⟨rfl, rfl, rfl⟩ := H; obtain ⟨_, _, _, _, _, _, _, _⟩ := cells4 BK582.out
     go_wp2_with (first | ((with_reducible refine gc 34 rfl ?_); refine gl (some 36) #[.agg #[.int .i64 a3_0, .int .i64 a3_1, .string a3_2, .int .i64 a3_3]] Tryd.func34 ?_; (with_reducible refine (whirligigref22_RightInput.calls kj8 a3_0 a3_1 a3_2 a3_3 false _ A14.out).mono ?_); rintro e w62 ⟨rfl, hb⟩; refine ⟨_, rfl, ?_⟩; have n0_ := Aside0.mk (Kd.V_below (by (with_reducible repeat (first | apply Kd.V_alloc | apply Kd.V_drewN | apply Kd.V_drew)); exact HO_0.out) hb); have n1_ := kb gb582 hb; have n2_ := bst hb; clear HO_0; clear BK582; clear HB; have HO_0 := n0_; have BK582 := n1_; have HB := n2_; clear n0_ n1_ n2_; (try clear hb)))
     go_ret3; exact ⟨_, qR, by (with_reducible repeat (first | apply Kd.V_alloc | apply Kd.V_drewN | apply Kd.V_drew)); exact Kd.V_mono HO_0.out (fun _ hk => hk.1), qB⟩
def tree_Tree_Same_1.f (k : Nat) (a0_0 : Int) (a0_1 : Int) (a0_2 : Int) (l0_3 : List (S45)) (a1_0 : Int) (a1_1 : Int) (a1_2 : Int) (l1_3 : List (S45)) : Option (Bool) := if a0_0 = a1_0 then (if a0_1 = a1_1 then (if a0_2 = a1_2 then ((tree_Input.f k l0_3 l1_3).bind fun t603 => (some t603)) else (some false)) else (some false)) else (some false)
set_option maxHeartbeats 8000000 in
set_option maxRecDepth 100000 in
theorem tree_Tree_Same_1.calls (k : Nat) (a0_0 : Int) (a0_1 : Int) (a0_2 : Int) (A0_3 : Option Addr) (c0_3 : Nat) (l0_3 : List (S45)) (a1_0 : Int) (a1_1 : Int) (a1_2 : Int) (A1_3 : Option Addr) (c1_3 : Nat) (l1_3 : List (S45)) (r : Bool) (w : World) (hr0_3 : Kd.C k45 w A0_3 l0_3.length l0_3) (hc0_3 : l0_3.length ≤ c0_3) (hr1_3 : Kd.C k45 w A1_3 l1_3.length l1_3) (hc1_3 : l1_3.length ≤ c1_3) (h : tree_Tree_Same_1.f k a0_0 a0_1 a0_2 l0_3 a1_0 a1_1 a1_2 l1_3 = some r) :
  Calls Tryd.prog 86 #[.agg #[.int .i64 a0_0, .int .i64 a0_1, .int .i64 a0_2, .slice A0_3 l0_3.length c0_3], .agg #[.int .i64 a1_0, .int .i64 a1_1, .int .i64 a1_2, .slice A1_3 l1_3.length c1_3]] w fun e w' => e = .returned (.bool r) ∧ Below w.heap.size w w' := by
 have hu43 := Tryd.underlying43
 have HR0_3 := Aside0.mk hr0_3
 have HC0_3 := Aside0.mk hc0_3
 clear hr0_3 hc0_3
 have HR1_3 := Aside0.mk hr1_3
 have HC1_3 := Aside0.mk hc1_3
 clear hr1_3 hc1_3
 have HB := Aside0.mk (Below.refl w.heap.size w)
 have H : (if a0_0 = a1_0 then (if a0_1 = a1_1 then (if a0_2 = a1_2 then ((tree_Input.f k l0_3 l1_3).bind fun t603 => (some t603)) else (some false)) else (some false)) else (some false)) = some r := h
 clear h
 by_cases c3 : a0_0 = a1_0
 ·rw [if_pos c3] at H
  have c3b0 := beq_iff_eq.mpr c3
  have c3b1 := bne_eq_false_iff_eq.mpr c3
  clear c3
  by_cases c4 : a0_1 = a1_1
  ·rw [if_pos c4] at H
   have c4b0 := beq_iff_eq.mpr c4
   have c4b1 := bne_eq_false_iff_eq.mpr c4
   clear c4
   by_cases c5 : a0_2 = a1_2
   ·rw [if_pos c5] at H
    have c5b0 := beq_iff_eq.mpr c5
    have c5b1 := bne_eq_false_iff_eq.mpr c5
    clear c5
    replace H := Option.bind_eq_some_iff.mp H
    obtain ⟨t603, A60, H⟩ := H
    (try dsimp -simprocs only at H)
    have A6 := Aside0.mk A60
    clear A60
    obtain rfl := Option.some.inj H
    go_enter Tryd.func86, Tryd.ntmps86
    go_wp2_with (first | ((with_reducible refine gd 2 rfl ?_); refine bxx 2 #[.int .i64 a0_0, .int .i64 a0_1, .int .i64 a0_2, .slice A0_3 l0_3.length c0_3] 43 ?_; intro gb601 w7 BK601 GW601 HB) | ((with_reducible refine gd 3 rfl ?_); refine bx 3 #[.int .i64 a1_0, .int .i64 a1_1, .int .i64 a1_2, .slice A1_3 l1_3.length c1_3] 43 ?_; intro gb602 hg w8 hbox hb; have BK602 := Aside0.mk (hbox); have GW602 := geS hg; have GE602 := geS hg; have NB601_602 := neS gb601 hg; have NB602_601 := neT gb601 hg; replace BK601 := kb gb601 hb; replace HB := bst hb; clear hb hbox hg; have := NB601_602.out; have := NB602_601.out; obtain ⟨_, _, _, _, _, _, _, _⟩ := cells4 BK601.out; obtain ⟨_, _, _, _, _, _, _, _⟩ := cells4 BK602.out) | (go_at_call 87; (with_reducible refine (tree_Input.calls k _ _ l0_3 _ _ l1_3 t603 _ ?side1 ?side2 ?side3 ?side4 A6.out).mono ?_); (case side1 => exact qC); (case side2 => exact HC0_3.out); (case side3 => exact qC); (case side4 => exact HC1_3.out); rintro e w' ⟨rfl, ⟨nd, rfl⟩⟩))
    go_ret
    exact ⟨qR, qB⟩
   rw [if_neg c5] at H
   have c5b0 := beq_eq_false_iff_ne.mpr c5
   have c5b1 := bne_iff_ne.mpr c5
   obtain rfl := Option.some.inj H
   go_enter Tryd.func86, Tryd.ntmps86
   go_wp2_with (first | ((with_reducible refine gd 2 rfl ?_); refine bxx 2 #[.int .i64 a0_0, .int .i64 a0_1, .int .i64 a0_2, .slice A0_3 l0_3.length c0_3] 43 ?_; intro gb601 w12 BK601 GW601 HB) | ((with_reducible refine gd 3 rfl ?_); refine bx 3 #[.int .i64 a1_0, .int .i64 a1_1, .int .i64 a1_2, .slice A1_3 l1_3.length c1_3] 43 ?_; intro gb602 hg w13 hbox hb; have BK602 := Aside0.mk (hbox); have GW602 := geS hg; have GE602 := geS hg; have NB601_602 := neS gb601 hg; have NB602_601 := neT gb601 hg; replace BK601 := kb gb601 hb; replace HB := bst hb; clear hb hbox hg; have := NB601_602.out; have := NB602_601.out; obtain ⟨_, _, _, _, _, _, _, _⟩ := cells4 BK601.out; obtain ⟨_, _, _, _, _, _, _, _⟩ := cells4 BK602.out))
   go_ret
   exact ⟨qR, qB⟩
  rw [if_neg c4] at H
  have c4b0 := beq_eq_false_iff_ne.mpr c4
  have c4b1 := bne_iff_ne.mpr c4
  obtain rfl := Option.some.inj H
  go_enter Tryd.func86, Tryd.ntmps86
  go_wp2_with (first | ((with_reducible refine gd 2 rfl ?_); refine bxx 2 #[.int .i64 a0_0, .int .i64 a0_1, .int .i64 a0_2, .slice A0_3 l0_3.length c0_3] 43 ?_; intro gb601 w17 BK601 GW601 HB) | ((with_reducible refine gd 3 rfl ?_); refine bx 3 #[.int .i64 a1_0, .int .i64 a1_1, .int .i64 a1_2, .slice A1_3 l1_3.length c1_3] 43 ?_; intro gb602 hg w18 hbox hb; have BK602 := Aside0.mk (hbox); have GW602 := geS hg; have GE602 := geS hg; have NB601_602 := neS gb601 hg; have NB602_601 := neT gb601 hg; replace BK601 := kb gb601 hb; replace HB := bst hb; clear hb hbox hg; have := NB601_602.out; have := NB602_601.out; obtain ⟨_, _, _, _, _, _, _, _⟩ := cells4 BK601.out; obtain ⟨_, _, _, _, _, _, _, _⟩ := cells4 BK602.out))
  go_ret
  exact ⟨qR, qB⟩
 rw [if_neg c3] at H
 have c3b0 := beq_eq_false_iff_ne.mpr c3
 have c3b1 := bne_iff_ne.mpr c3
 obtain rfl := Option.some.inj H
 go_enter Tryd.func86, Tryd.ntmps86
 go_wp2_with (first | ((with_reducible refine gd 2 rfl ?_); refine bxx 2 #[.int .i64 a0_0, .int .i64 a0_1, .int .i64 a0_2, .slice A0_3 l0_3.length c0_3] 43 ?_; intro gb601 w22 BK601 GW601 HB) | ((with_reducible refine gd 3 rfl ?_); refine bx 3 #[.int .i64 a1_0, .int .i64 a1_1, .int .i64 a1_2, .slice A1_3 l1_3.length c1_3] 43 ?_; intro gb602 hg w23 hbox hb; have BK602 := Aside0.mk (hbox); have GW602 := geS hg; have GE602 := geS hg; have NB601_602 := neS gb601 hg; have NB602_601 := neT gb601 hg; replace BK601 := kb gb601 hb; replace HB := bst hb; clear hb hbox hg; have := NB601_602.out; have := NB602_601.out; obtain ⟨_, _, _, _, _, _, _, _⟩ := cells4 BK601.out; obtain ⟨_, _, _, _, _, _, _, _⟩ := cells4 BK602.out))
 go_ret
 exact ⟨qR, qB⟩
end Go.Proofs.YtbngfhlciebeeaaDoor.L
end
