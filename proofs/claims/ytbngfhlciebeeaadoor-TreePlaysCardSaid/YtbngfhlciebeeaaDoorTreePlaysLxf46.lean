/- Printed and hand-written steps towards the row (TreePlays), those that it reaches. -/
import Derived.Test.YtbngfhlciebeeaaDoorTreePlaysG4
import Derived.Test.YtbngfhlciebeeaaDoorTreePlaysG5
import Derived.Test.YtbngfhlciebeeaaDoorTreePlaysG20
namespace Go.Proofs.YtbngfhlciebeeaaDoor.L
open Go.RowKit Go.Proofs.YtbngfhlciebeeaaDoorW.PrintWords Go.Proofs.YtbngfhlciebeeaaDoorW.PrintLast Go.Proofs.YtbngfhlciebeeaaDoorW.PrintMore
attribute [local go_sem] max2_int min2_int max_two min_two max_three min_three max_four min_four   -- for this text's walks alone
set_option linter.unusedVariables false
set_option linter.unusedSimpArgs false
attribute [local go_sem high] eqA47
mutual
def whirligiglaw22_same.l0 : Nat → List (S65) → List (S65) → Int → Int → Option (Bool)
 | 0, _, _, _, _ => none
 | k + 1, x1, x5, x16, x17 => if x17 < x16 then (if 0 ≤ x17 then (if x17 < (x5.length : Int) then (if x17 < (x1.length : Int) then (if ((rd_T65 x5 x17).f0) = ((rd_T65 x1 x17).f0) then (if ((rd_T65 x5 x17).f1) = ((rd_T65 x1 x17).f1) then (if ((rd_T65 x5 x17).f2) = ((rd_T65 x1 x17).f2) then (whirligiglaw22_same.j1 k x1 x5 x17 x16 x17 ((((rd_T65 x5 x17).f3).length : Int) != (((rd_T65 x1 x17).f3).length : Int))) else (whirligiglaw22_same.j1 k x1 x5 x17 x16 x17 true)) else (whirligiglaw22_same.j1 k x1 x5 x17 x16 x17 true)) else (whirligiglaw22_same.j1 k x1 x5 x17 x16 x17 true)) else (none)) else (none)) else (none)) else (some true)
def whirligiglaw22_same.j1 : Nat → List (S65) → List (S65) → Int → Int → Int → Bool → Option (Bool)
 | 0, _, _, _, _, _, _ => none
 | k + 1, x1, x5, x6, x16, x17, x71 => if x71 = true then (some false) else (if 0 ≤ x6 then (if x6 < (x5.length : Int) then (whirligiglaw22_same.l1 k x1 x5 x6 x16 x17 (((rd_T65 x5 x6).f3).length : Int) 0) else (none)) else (none))
def whirligiglaw22_same.l1 : Nat → List (S65) → List (S65) → Int → Int → Int → Int → Int → Option (Bool)
 | 0, _, _, _, _, _, _, _ => none
 | k + 1, x1, x5, x6, x16, x17, x77, x78 => if x78 < x77 then (if 0 ≤ x6 then (if x6 < (x5.length : Int) then (if 0 ≤ x78 then (if x78 < (((rd_T65 x5 x6).f3).length : Int) then (if x6 < (x1.length : Int) then (if x78 < (((rd_T65 x1 x6).f3).length : Int) then (if (!(((rd_T47 ((rd_T65 x5 x6).f3) x78).f0) == ((rd_T47 ((rd_T65 x1 x6).f3) x78).f0)) || (!(((rd_T47 ((rd_T65 x5 x6).f3) x78).f1) == ((rd_T47 ((rd_T65 x1 x6).f3) x78).f1)) || (!((((rd_T47 ((rd_T65 x5 x6).f3) x78).f2).toList) == (((rd_T47 ((rd_T65 x1 x6).f3) x78).f2).toList)) || (!(((rd_T47 ((rd_T65 x5 x6).f3) x78).f3) == ((rd_T47 ((rd_T65 x1 x6).f3) x78).f3)))))) = true then (some false) else (whirligiglaw22_same.l1 k x1 x5 x6 x16 x17 x77 (wrap64 (x78 + 1)))) else (none)) else (none)) else (none)) else (none)) else (none)) else (none)) else (whirligiglaw22_same.l0 k x1 x5 x16 (wrap64 (x17 + 1)))
end
def whirligiglaw22_same.f (k : Nat) (l0 : List (S43)) (l1 : List (S65)) : Option (Bool) := (whirligiglaw22_refs.f k l0).bind fun t552 => (if (t552.length : Int) = (l1.length : Int) then (whirligiglaw22_same.l0 k l1 t552 (t552.length : Int) 0) else (some false))
set_option maxHeartbeats 8000000 in
set_option maxRecDepth 100000 in
theorem whirligiglaw22_same.calls (k : Nat) (A0 : Option Addr) (c0 : Nat) (l0 : List (S43)) (A1 : Option Addr) (c1 : Nat) (l1 : List (S65)) (r : Bool) (w : World) (hr0 : Kd.C k43 w A0 l0.length l0) (hc0 : l0.length ≤ c0) (hr1 : Kd.C k65 w A1 l1.length l1) (hc1 : l1.length ≤ c1) (h : whirligiglaw22_same.f k l0 l1 = some r) :
  Calls Tryd.prog 46 #[.slice A0 l0.length c0, .slice A1 l1.length c1] w fun e w' => e = .returned (.bool r) ∧ Below w.heap.size w w' := by
 have hu47 := Tryd.underlying47
 have HR0 := Aside0.mk hr0
 have HC0 := Aside0.mk hc0
 clear hr0 hc0
 have HR1 := Aside0.mk hr1
 have HC1 := Aside0.mk hc1
 clear hr1 hc1
 have HB := Aside0.mk (Below.refl w.heap.size w)
 have H : ((whirligiglaw22_refs.f k l0).bind fun t552 => (if (t552.length : Int) = (l1.length : Int) then (whirligiglaw22_same.l0 k l1 t552 (t552.length : Int) 0) else (some false))) = some r := h
 clear h
 replace H := Option.bind_eq_some_iff.mp H
 obtain ⟨t552, A30, H⟩ := H
 (try dsimp -simprocs only at H)
 have A3 := Aside0.mk A30
 clear A30
 by_cases c4 : (t552.length : Int) = (l1.length : Int)
 ·rw [if_pos c4] at H
  have c4b0 := beq_iff_eq.mpr c4
  have c4b1 := bne_eq_false_iff_eq.mpr c4
  have c4b2 : (t552.length == l1.length) = true := by first | simpa using c4 | (simp at c4 ⊢; omega)
  clear c4
  have H' := Aside0.mk H
  clear H
  go_enter Tryd.func46, Tryd.ntmps46
  go_wp2_with (first | (go_at_call 37; (with_reducible refine (whirligiglaw22_refs.calls k _ _ l0 t552 _ ?side1 ?side2 A3.out).mono ?_); (case side1 => repeat (first | exact HR0.out | (with_reducible refine Kd.C_alloc ?_ _) | (with_reducible refine Kd.C_drewN ?_ _) | (with_reducible refine Kd.C_drew ?_))); (case side2 => exact HC0.out); rintro e w5 ⟨v553, rfl, ho0, hb⟩; have HO554 := Aside0.mk (Kd.S_lower ho0 (below_size qB)); replace HB := bst hb; (try clear hb); (try clear ho0); obtain ⟨Ao6, co6, eo6⟩ := Kd.S_slice HO554.out; subst eo6))
  repeat (go_quiet (first | (go_at_call 37; (with_reducible refine (whirligiglaw22_refs.calls k _ _ l0 t552 _ ?side1 ?side2 A3.out).mono ?_); (case side1 => repeat (first | exact HR0.out | (with_reducible refine Kd.C_alloc ?_ _) | (with_reducible refine Kd.C_drewN ?_ _) | (with_reducible refine Kd.C_drew ?_))); (case side2 => exact HC0.out); rintro e w5 ⟨v553, rfl, ho0, hb⟩; have HO554 := Aside0.mk (Kd.S_lower ho0 (below_size qB)); replace HB := bst hb; (try clear hb); (try clear ho0); obtain ⟨Ao6, co6, eo6⟩ := Kd.S_slice HO554.out; subst eo6)); try go_wp2_with (first | (go_at_call 37; (with_reducible refine (whirligiglaw22_refs.calls k _ _ l0 t552 _ ?side1 ?side2 A3.out).mono ?_); (case side1 => repeat (first | exact HR0.out | (with_reducible refine Kd.C_alloc ?_ _) | (with_reducible refine Kd.C_drewN ?_ _) | (with_reducible refine Kd.C_drew ?_))); (case side2 => exact HC0.out); rintro e w5 ⟨v553, rfl, ho0, hb⟩; have HO554 := Aside0.mk (Kd.S_lower ho0 (below_size qB)); replace HB := bst hb; (try clear hb); (try clear ho0); obtain ⟨Ao6, co6, eo6⟩ := Kd.S_slice HO554.out; subst eo6)))
  go_loopg [17] k (fun kq v17 w' => ∃ (x17_1 : Int), v17 = .int .i64 x17_1 ∧ Aside0 (whirligiglaw22_same.l0 kq l1 t552 (t552.length : Int) x17_1 = some r) ∧ Aside0 (kq ≤ k) ∧ Aside0 (Kd.S k65 65 w' w.heap.size (fun _ => True) (.slice Ao6 t552.length co6) t552) ∧ Aside0 (Below w.heap.size w w'))
  case atStart => exact ⟨(0), qE, H', ⟨Nat.le_refl _⟩, ⟨by (with_reducible repeat (first | apply Kd.S_alloc | apply Kd.S_drewN | apply Kd.S_drew)); exact HO554.out⟩, ⟨qB⟩⟩
  case round =>
   clear H'
   try clear p2
   obtain ⟨x17_1, rfl, HA, HK1, HO_5, HB⟩ := hrel
   cases gk with
   | zero => exact absurd HA.out (by simp [whirligiglaw22_same.l0])
   | succ k1 =>
    have H := HA.out
    clear HA
    simp only [whirligiglaw22_same.l0] at H
    by_cases c7 : x17_1 < (t552.length : Int)
    ·rw [if_pos c7] at H; have c7b0 := decide_eq_true c7; clear c7; have HC8 := Aside0.mk H; clear H
     go_upto_region 7 with (fail)
     repeat (go_quiet (fail); go_upto_region 7 with (fail))
     go_cut [71] (fun v71 wc => ∃ (kq : Nat) (x71_7 : Bool), v71 = .bool x71_7 ∧ Aside0 (whirligiglaw22_same.j1 kq l1 t552 x17_1 (t552.length : Int) x17_1 x71_7 = some r) ∧ Aside0 (kq ≤ k1) ∧ Aside0 (Kd.S k65 65 wc w.heap.size (fun _ => True) (.slice Ao6 t552.length co6) t552) ∧ Aside0 (Below w.heap.size w wc))
     case first =>
      have H := HC8.out; clear HC8; replace H := iD H
      rcases H with ⟨c9b0, H⟩ | ⟨c9b0, H⟩
      ·(first | rw [c9b0] | (simp only [i64_w, i32_w]; rw [c9b0]) | skip); replace H := iD H
       rcases H with ⟨c10b0, H⟩ | ⟨c10b0, H⟩
       ·by_cases c11 : x17_1 < (l1.length : Int)
        ·rw [if_pos c11] at H; have c11b0 := decide_eq_true c11; clear c11
         by_cases c12 : ((rd_T65 t552 x17_1).f0) = ((rd_T65 l1 x17_1).f0)
         ·rw [if_pos c12] at H; have c12b0 := beq_iff_eq.mpr c12; have c12b1 := bne_eq_false_iff_eq.mpr c12; clear c12
          by_cases c13 : ((rd_T65 t552 x17_1).f1) = ((rd_T65 l1 x17_1).f1)
          ·rw [if_pos c13] at H; have c13b0 := beq_iff_eq.mpr c13; have c13b1 := bne_eq_false_iff_eq.mpr c13; clear c13
           by_cases c14 : ((rd_T65 t552 x17_1).f2) = ((rd_T65 l1 x17_1).f2)
           ·rw [if_pos c14] at H; have c14b0 := beq_iff_eq.mpr c14; have c14b1 := bne_eq_false_iff_eq.mpr c14; clear c14; have H' := Aside0.mk H; clear H; have p555 : 0 ≤ (x17_1 : Int) := qD; have q555 : x17_1 < (t552.length : Int) := qD; obtain ⟨ad555, A555_3, c555_3, e555, hx555_0, hx555_1, hx555_2, hx555_3, hl555_3, hi555_3⟩ := at_T65 (Kd.S_reads' HO_5.out).2.2 x17_1 p555 q555; cases e555; obtain ⟨ce555, hce555, hMe555, hcc555⟩ := Kd.S_get HO_5.out z65 x17_1 p555 (by first | exact q555 | exact qD | (have e_ := (Kd.S_reads' HO_5.out).1; omega)); obtain ⟨ve555_3, rfl, ge555_3⟩ := k65_openM hMe555; have hv555_3 := hcc555 3 _ rfl; rw [add_field _ _ 3 (by omega)] at hv555_3; replace hv555_3 := Option.some.inj (hv555_3.symm.trans hx555_3); rw [hv555_3] at ge555_3; have HL555_3 := Aside0.mk (show Kd.R k47 47 _ _ _ _ ((rd_T65 t552 x17_1).f3) from ge555_3); clear hv555_3 ge555_3; clear hcc555 hce555; have HR555_3 := Aside0.mk hi555_3; have HC555_3 := Aside0.mk hl555_3; clear hi555_3 hl555_3; replace p555 := eq_true p555; replace q555 := eq_true q555; have p556 : 0 ≤ (x17_1 : Int) := qD; have q556 : x17_1 < (l1.length : Int) := qD; obtain ⟨ad556, A556_3, c556_3, e556, hx556_0, hx556_1, hx556_2, hx556_3, hl556_3, hi556_3⟩ := at_T65 HR1.out x17_1 p556 q556; cases e556; replace hx556_0 := pw_cell_below HB.out hx556_0; replace hx556_1 := pw_cell_below HB.out hx556_1; replace hx556_2 := pw_cell_below HB.out hx556_2; replace hx556_3 := pw_cell_below HB.out hx556_3
            have HR556_3 := Aside0.mk hi556_3; have HC556_3 := Aside0.mk hl556_3; clear hi556_3 hl556_3; replace p556 := eq_true p556; replace q556 := eq_true q556; have p557 : 0 ≤ (x17_1 : Int) := qD; have q557 : x17_1 < (t552.length : Int) := qD; obtain ⟨ad557, A557_3, c557_3, e557, hx557_0, hx557_1, hx557_2, hx557_3, hl557_3, hi557_3⟩ := at_T65 (Kd.S_reads' HO_5.out).2.2 x17_1 p557 q557; obtain rfl : ad555 = ad557 := (by injection e557); obtain ⟨ce557, hce557, hMe557, hcc557⟩ := Kd.S_get HO_5.out z65 x17_1 p557 (by first | exact q557 | exact qD | (have e_ := (Kd.S_reads' HO_5.out).1; omega)); obtain ⟨ve557_3, rfl, ge557_3⟩ := k65_openM hMe557; have hv557_3 := hcc557 3 _ rfl; rw [add_field _ _ 3 (by omega)] at hv557_3; replace hv557_3 := Option.some.inj (hv557_3.symm.trans hx557_3); rw [hv557_3] at ge557_3; have HL557_3 := Aside0.mk (show Kd.R k47 47 _ _ _ _ ((rd_T65 t552 x17_1).f3) from ge557_3); clear hv557_3 ge557_3; clear hcc557 hce557; have HR557_3 := Aside0.mk hi557_3; have HC557_3 := Aside0.mk hl557_3; clear hi557_3 hl557_3; replace p557 := eq_true p557; replace q557 := eq_true q557; have ea_ := Option.some.inj (hx555_3.symm.trans hx557_3)
            injection ea_ with ea_ en_ ec_
            subst ea_; subst ec_; clear en_; have p558 : 0 ≤ (x17_1 : Int) := qD; have q558 : x17_1 < (l1.length : Int) := qD; obtain ⟨ad558, A558_3, c558_3, e558, hx558_0, hx558_1, hx558_2, hx558_3, hl558_3, hi558_3⟩ := at_T65 HR1.out x17_1 p558 q558; obtain rfl : ad556 = ad558 := (by injection e558); replace hx558_0 := pw_cell_below HB.out hx558_0; replace hx558_1 := pw_cell_below HB.out hx558_1; replace hx558_2 := pw_cell_below HB.out hx558_2; replace hx558_3 := pw_cell_below HB.out hx558_3; have HR558_3 := Aside0.mk hi558_3; have HC558_3 := Aside0.mk hl558_3; clear hi558_3 hl558_3; replace p558 := eq_true p558; replace q558 := eq_true q558; have ea_ := Option.some.inj (hx556_3.symm.trans hx558_3)
            injection ea_ with ea_ en_ ec_
            subst ea_; subst ec_; clear en_; have p559 : 0 ≤ (x17_1 : Int) := qD; have q559 : x17_1 < (t552.length : Int) := qD; obtain ⟨ad559, A559_3, c559_3, e559, hx559_0, hx559_1, hx559_2, hx559_3, hl559_3, hi559_3⟩ := at_T65 (Kd.S_reads' HO_5.out).2.2 x17_1 p559 q559; obtain rfl : ad555 = ad559 := (by injection e559); obtain ⟨ce559, hce559, hMe559, hcc559⟩ := Kd.S_get HO_5.out z65 x17_1 p559 (by first | exact q559 | exact qD | (have e_ := (Kd.S_reads' HO_5.out).1; omega)); obtain ⟨ve559_3, rfl, ge559_3⟩ := k65_openM hMe559; have hv559_3 := hcc559 3 _ rfl; rw [add_field _ _ 3 (by omega)] at hv559_3; replace hv559_3 := Option.some.inj (hv559_3.symm.trans hx559_3); rw [hv559_3] at ge559_3; have HL559_3 := Aside0.mk (show Kd.R k47 47 _ _ _ _ ((rd_T65 t552 x17_1).f3) from ge559_3); clear hv559_3 ge559_3; clear hcc559 hce559; have HR559_3 := Aside0.mk hi559_3; have HC559_3 := Aside0.mk hl559_3; clear hi559_3 hl559_3; replace p559 := eq_true p559; replace q559 := eq_true q559; have ea_ := Option.some.inj (hx555_3.symm.trans hx559_3)
            injection ea_ with ea_ en_ ec_
            subst ea_; subst ec_; clear en_; have p560 : 0 ≤ (x17_1 : Int) := qD; have q560 : x17_1 < (l1.length : Int) := qD; obtain ⟨ad560, A560_3, c560_3, e560, hx560_0, hx560_1, hx560_2, hx560_3, hl560_3, hi560_3⟩ := at_T65 HR1.out x17_1 p560 q560; obtain rfl : ad556 = ad560 := (by injection e560); replace hx560_0 := pw_cell_below HB.out hx560_0; replace hx560_1 := pw_cell_below HB.out hx560_1; replace hx560_2 := pw_cell_below HB.out hx560_2; replace hx560_3 := pw_cell_below HB.out hx560_3; have HR560_3 := Aside0.mk hi560_3; have HC560_3 := Aside0.mk hl560_3; clear hi560_3 hl560_3; replace p560 := eq_true p560; replace q560 := eq_true q560; have ea_ := Option.some.inj (hx556_3.symm.trans hx560_3)
            injection ea_ with ea_ en_ ec_
            subst ea_; subst ec_; clear en_; have p561 : 0 ≤ (x17_1 : Int) := qD; have q561 : x17_1 < (t552.length : Int) := qD; obtain ⟨ad561, A561_3, c561_3, e561, hx561_0, hx561_1, hx561_2, hx561_3, hl561_3, hi561_3⟩ := at_T65 (Kd.S_reads' HO_5.out).2.2 x17_1 p561 q561; obtain rfl : ad555 = ad561 := (by injection e561); obtain ⟨ce561, hce561, hMe561, hcc561⟩ := Kd.S_get HO_5.out z65 x17_1 p561 (by first | exact q561 | exact qD | (have e_ := (Kd.S_reads' HO_5.out).1; omega)); obtain ⟨ve561_3, rfl, ge561_3⟩ := k65_openM hMe561; have hv561_3 := hcc561 3 _ rfl; rw [add_field _ _ 3 (by omega)] at hv561_3; replace hv561_3 := Option.some.inj (hv561_3.symm.trans hx561_3); rw [hv561_3] at ge561_3; have HL561_3 := Aside0.mk (show Kd.R k47 47 _ _ _ _ ((rd_T65 t552 x17_1).f3) from ge561_3); clear hv561_3 ge561_3; clear hcc561 hce561; have HR561_3 := Aside0.mk hi561_3; have HC561_3 := Aside0.mk hl561_3; clear hi561_3 hl561_3; replace p561 := eq_true p561; replace q561 := eq_true q561; have ea_ := Option.some.inj (hx555_3.symm.trans hx561_3)
            injection ea_ with ea_ en_ ec_
            subst ea_; subst ec_; clear en_; have p562 : 0 ≤ (x17_1 : Int) := qD; have q562 : x17_1 < (l1.length : Int) := qD; obtain ⟨ad562, A562_3, c562_3, e562, hx562_0, hx562_1, hx562_2, hx562_3, hl562_3, hi562_3⟩ := at_T65 HR1.out x17_1 p562 q562; obtain rfl : ad556 = ad562 := (by injection e562); replace hx562_0 := pw_cell_below HB.out hx562_0; replace hx562_1 := pw_cell_below HB.out hx562_1; replace hx562_2 := pw_cell_below HB.out hx562_2; replace hx562_3 := pw_cell_below HB.out hx562_3; have HR562_3 := Aside0.mk hi562_3; have HC562_3 := Aside0.mk hl562_3; clear hi562_3 hl562_3; replace p562 := eq_true p562; replace q562 := eq_true q562; have ea_ := Option.some.inj (hx556_3.symm.trans hx562_3)
            injection ea_ with ea_ en_ ec_
            subst ea_; subst ec_; clear en_
            go_wp2
            repeat (go_quiet (fail); try go_wp2)
            go_meet
            case rel => exact ⟨_, (((((rd_T65 t552 x17_1).f3).length : Int) != (((rd_T65 l1 x17_1).f3).length : Int))), qE, H', ⟨by have := HK1.out; first | omega | exact Nat.le_refl _⟩, ⟨by (with_reducible repeat (first | apply Kd.S_alloc | apply Kd.S_drewN | apply Kd.S_drew)); exact HO_5.out⟩, ⟨qB⟩⟩
           rw [if_neg c14] at H; have c14b0 := beq_eq_false_iff_ne.mpr c14; have c14b1 := bne_iff_ne.mpr c14; have H' := Aside0.mk H; clear H; have p555 : 0 ≤ (x17_1 : Int) := qD; have q555 : x17_1 < (t552.length : Int) := qD; obtain ⟨ad555, A555_3, c555_3, e555, hx555_0, hx555_1, hx555_2, hx555_3, hl555_3, hi555_3⟩ := at_T65 (Kd.S_reads' HO_5.out).2.2 x17_1 p555 q555; cases e555; obtain ⟨ce555, hce555, hMe555, hcc555⟩ := Kd.S_get HO_5.out z65 x17_1 p555 (by first | exact q555 | exact qD | (have e_ := (Kd.S_reads' HO_5.out).1; omega)); obtain ⟨ve555_3, rfl, ge555_3⟩ := k65_openM hMe555; have hv555_3 := hcc555 3 _ rfl; rw [add_field _ _ 3 (by omega)] at hv555_3; replace hv555_3 := Option.some.inj (hv555_3.symm.trans hx555_3); rw [hv555_3] at ge555_3; have HL555_3 := Aside0.mk (show Kd.R k47 47 _ _ _ _ ((rd_T65 t552 x17_1).f3) from ge555_3); clear hv555_3 ge555_3; clear hcc555 hce555; have HR555_3 := Aside0.mk hi555_3; have HC555_3 := Aside0.mk hl555_3; clear hi555_3 hl555_3; replace p555 := eq_true p555; replace q555 := eq_true q555; have p556 : 0 ≤ (x17_1 : Int) := qD; have q556 : x17_1 < (l1.length : Int) := qD; obtain ⟨ad556, A556_3, c556_3, e556, hx556_0, hx556_1, hx556_2, hx556_3, hl556_3, hi556_3⟩ := at_T65 HR1.out x17_1 p556 q556; cases e556; replace hx556_0 := pw_cell_below HB.out hx556_0; replace hx556_1 := pw_cell_below HB.out hx556_1; replace hx556_2 := pw_cell_below HB.out hx556_2; replace hx556_3 := pw_cell_below HB.out hx556_3; have HR556_3 := Aside0.mk hi556_3
           have HC556_3 := Aside0.mk hl556_3; clear hi556_3 hl556_3; replace p556 := eq_true p556; replace q556 := eq_true q556; have p557 : 0 ≤ (x17_1 : Int) := qD; have q557 : x17_1 < (t552.length : Int) := qD; obtain ⟨ad557, A557_3, c557_3, e557, hx557_0, hx557_1, hx557_2, hx557_3, hl557_3, hi557_3⟩ := at_T65 (Kd.S_reads' HO_5.out).2.2 x17_1 p557 q557; obtain rfl : ad555 = ad557 := (by injection e557); obtain ⟨ce557, hce557, hMe557, hcc557⟩ := Kd.S_get HO_5.out z65 x17_1 p557 (by first | exact q557 | exact qD | (have e_ := (Kd.S_reads' HO_5.out).1; omega)); obtain ⟨ve557_3, rfl, ge557_3⟩ := k65_openM hMe557; have hv557_3 := hcc557 3 _ rfl; rw [add_field _ _ 3 (by omega)] at hv557_3; replace hv557_3 := Option.some.inj (hv557_3.symm.trans hx557_3); rw [hv557_3] at ge557_3; have HL557_3 := Aside0.mk (show Kd.R k47 47 _ _ _ _ ((rd_T65 t552 x17_1).f3) from ge557_3); clear hv557_3 ge557_3; clear hcc557 hce557; have HR557_3 := Aside0.mk hi557_3; have HC557_3 := Aside0.mk hl557_3; clear hi557_3 hl557_3; replace p557 := eq_true p557; replace q557 := eq_true q557; have ea_ := Option.some.inj (hx555_3.symm.trans hx557_3)
           injection ea_ with ea_ en_ ec_
           subst ea_; subst ec_; clear en_; have p558 : 0 ≤ (x17_1 : Int) := qD; have q558 : x17_1 < (l1.length : Int) := qD; obtain ⟨ad558, A558_3, c558_3, e558, hx558_0, hx558_1, hx558_2, hx558_3, hl558_3, hi558_3⟩ := at_T65 HR1.out x17_1 p558 q558; obtain rfl : ad556 = ad558 := (by injection e558); replace hx558_0 := pw_cell_below HB.out hx558_0; replace hx558_1 := pw_cell_below HB.out hx558_1; replace hx558_2 := pw_cell_below HB.out hx558_2; replace hx558_3 := pw_cell_below HB.out hx558_3; have HR558_3 := Aside0.mk hi558_3; have HC558_3 := Aside0.mk hl558_3; clear hi558_3 hl558_3; replace p558 := eq_true p558; replace q558 := eq_true q558; have ea_ := Option.some.inj (hx556_3.symm.trans hx558_3)
           injection ea_ with ea_ en_ ec_
           subst ea_; subst ec_; clear en_; have p559 : 0 ≤ (x17_1 : Int) := qD; have q559 : x17_1 < (t552.length : Int) := qD; obtain ⟨ad559, A559_3, c559_3, e559, hx559_0, hx559_1, hx559_2, hx559_3, hl559_3, hi559_3⟩ := at_T65 (Kd.S_reads' HO_5.out).2.2 x17_1 p559 q559; obtain rfl : ad555 = ad559 := (by injection e559); obtain ⟨ce559, hce559, hMe559, hcc559⟩ := Kd.S_get HO_5.out z65 x17_1 p559 (by first | exact q559 | exact qD | (have e_ := (Kd.S_reads' HO_5.out).1; omega)); obtain ⟨ve559_3, rfl, ge559_3⟩ := k65_openM hMe559; have hv559_3 := hcc559 3 _ rfl; rw [add_field _ _ 3 (by omega)] at hv559_3; replace hv559_3 := Option.some.inj (hv559_3.symm.trans hx559_3); rw [hv559_3] at ge559_3; have HL559_3 := Aside0.mk (show Kd.R k47 47 _ _ _ _ ((rd_T65 t552 x17_1).f3) from ge559_3); clear hv559_3 ge559_3; clear hcc559 hce559; have HR559_3 := Aside0.mk hi559_3; have HC559_3 := Aside0.mk hl559_3; clear hi559_3 hl559_3; replace p559 := eq_true p559; replace q559 := eq_true q559; have ea_ := Option.some.inj (hx555_3.symm.trans hx559_3)
           injection ea_ with ea_ en_ ec_
           subst ea_; subst ec_; clear en_; have p560 : 0 ≤ (x17_1 : Int) := qD; have q560 : x17_1 < (l1.length : Int) := qD; obtain ⟨ad560, A560_3, c560_3, e560, hx560_0, hx560_1, hx560_2, hx560_3, hl560_3, hi560_3⟩ := at_T65 HR1.out x17_1 p560 q560; obtain rfl : ad556 = ad560 := (by injection e560); replace hx560_0 := pw_cell_below HB.out hx560_0; replace hx560_1 := pw_cell_below HB.out hx560_1; replace hx560_2 := pw_cell_below HB.out hx560_2; replace hx560_3 := pw_cell_below HB.out hx560_3; have HR560_3 := Aside0.mk hi560_3; have HC560_3 := Aside0.mk hl560_3; clear hi560_3 hl560_3; replace p560 := eq_true p560; replace q560 := eq_true q560; have ea_ := Option.some.inj (hx556_3.symm.trans hx560_3)
           injection ea_ with ea_ en_ ec_
           subst ea_; subst ec_; clear en_
           go_wp2
           repeat (go_quiet (fail); try go_wp2)
           go_meet
           case rel => exact ⟨_, (true), qE, H', ⟨by have := HK1.out; first | omega | exact Nat.le_refl _⟩, ⟨by (with_reducible repeat (first | apply Kd.S_alloc | apply Kd.S_drewN | apply Kd.S_drew)); exact HO_5.out⟩, ⟨qB⟩⟩
          rw [if_neg c13] at H; have c13b0 := beq_eq_false_iff_ne.mpr c13; have c13b1 := bne_iff_ne.mpr c13; have H' := Aside0.mk H; clear H; have p555 : 0 ≤ (x17_1 : Int) := qD; have q555 : x17_1 < (t552.length : Int) := qD; obtain ⟨ad555, A555_3, c555_3, e555, hx555_0, hx555_1, hx555_2, hx555_3, hl555_3, hi555_3⟩ := at_T65 (Kd.S_reads' HO_5.out).2.2 x17_1 p555 q555; cases e555; obtain ⟨ce555, hce555, hMe555, hcc555⟩ := Kd.S_get HO_5.out z65 x17_1 p555 (by first | exact q555 | exact qD | (have e_ := (Kd.S_reads' HO_5.out).1; omega)); obtain ⟨ve555_3, rfl, ge555_3⟩ := k65_openM hMe555; have hv555_3 := hcc555 3 _ rfl; rw [add_field _ _ 3 (by omega)] at hv555_3; replace hv555_3 := Option.some.inj (hv555_3.symm.trans hx555_3); rw [hv555_3] at ge555_3; have HL555_3 := Aside0.mk (show Kd.R k47 47 _ _ _ _ ((rd_T65 t552 x17_1).f3) from ge555_3); clear hv555_3 ge555_3; clear hcc555 hce555; have HR555_3 := Aside0.mk hi555_3; have HC555_3 := Aside0.mk hl555_3; clear hi555_3 hl555_3; replace p555 := eq_true p555; replace q555 := eq_true q555; have p556 : 0 ≤ (x17_1 : Int) := qD; have q556 : x17_1 < (l1.length : Int) := qD; obtain ⟨ad556, A556_3, c556_3, e556, hx556_0, hx556_1, hx556_2, hx556_3, hl556_3, hi556_3⟩ := at_T65 HR1.out x17_1 p556 q556; cases e556; replace hx556_0 := pw_cell_below HB.out hx556_0; replace hx556_1 := pw_cell_below HB.out hx556_1; replace hx556_2 := pw_cell_below HB.out hx556_2; replace hx556_3 := pw_cell_below HB.out hx556_3; have HR556_3 := Aside0.mk hi556_3
          have HC556_3 := Aside0.mk hl556_3; clear hi556_3 hl556_3; replace p556 := eq_true p556; replace q556 := eq_true q556; have p557 : 0 ≤ (x17_1 : Int) := qD; have q557 : x17_1 < (t552.length : Int) := qD; obtain ⟨ad557, A557_3, c557_3, e557, hx557_0, hx557_1, hx557_2, hx557_3, hl557_3, hi557_3⟩ := at_T65 (Kd.S_reads' HO_5.out).2.2 x17_1 p557 q557; obtain rfl : ad555 = ad557 := (by injection e557); obtain ⟨ce557, hce557, hMe557, hcc557⟩ := Kd.S_get HO_5.out z65 x17_1 p557 (by first | exact q557 | exact qD | (have e_ := (Kd.S_reads' HO_5.out).1; omega)); obtain ⟨ve557_3, rfl, ge557_3⟩ := k65_openM hMe557; have hv557_3 := hcc557 3 _ rfl; rw [add_field _ _ 3 (by omega)] at hv557_3; replace hv557_3 := Option.some.inj (hv557_3.symm.trans hx557_3); rw [hv557_3] at ge557_3; have HL557_3 := Aside0.mk (show Kd.R k47 47 _ _ _ _ ((rd_T65 t552 x17_1).f3) from ge557_3); clear hv557_3 ge557_3; clear hcc557 hce557; have HR557_3 := Aside0.mk hi557_3; have HC557_3 := Aside0.mk hl557_3; clear hi557_3 hl557_3; replace p557 := eq_true p557; replace q557 := eq_true q557; have ea_ := Option.some.inj (hx555_3.symm.trans hx557_3)
          injection ea_ with ea_ en_ ec_
          subst ea_; subst ec_; clear en_; have p558 : 0 ≤ (x17_1 : Int) := qD; have q558 : x17_1 < (l1.length : Int) := qD; obtain ⟨ad558, A558_3, c558_3, e558, hx558_0, hx558_1, hx558_2, hx558_3, hl558_3, hi558_3⟩ := at_T65 HR1.out x17_1 p558 q558; obtain rfl : ad556 = ad558 := (by injection e558); replace hx558_0 := pw_cell_below HB.out hx558_0; replace hx558_1 := pw_cell_below HB.out hx558_1; replace hx558_2 := pw_cell_below HB.out hx558_2; replace hx558_3 := pw_cell_below HB.out hx558_3; have HR558_3 := Aside0.mk hi558_3; have HC558_3 := Aside0.mk hl558_3; clear hi558_3 hl558_3; replace p558 := eq_true p558; replace q558 := eq_true q558; have ea_ := Option.some.inj (hx556_3.symm.trans hx558_3)
          injection ea_ with ea_ en_ ec_
          subst ea_; subst ec_; clear en_
          go_wp2
          repeat (go_quiet (fail); try go_wp2)
          go_meet
          case rel => exact ⟨_, (true), qE, H', ⟨by have := HK1.out; first | omega | exact Nat.le_refl _⟩, ⟨by (with_reducible repeat (first | apply Kd.S_alloc | apply Kd.S_drewN | apply Kd.S_drew)); exact HO_5.out⟩, ⟨qB⟩⟩
         rw [if_neg c12] at H; have c12b0 := beq_eq_false_iff_ne.mpr c12; have c12b1 := bne_iff_ne.mpr c12; have H' := Aside0.mk H; clear H; have p555 : 0 ≤ (x17_1 : Int) := qD; have q555 : x17_1 < (t552.length : Int) := qD; obtain ⟨ad555, A555_3, c555_3, e555, hx555_0, hx555_1, hx555_2, hx555_3, hl555_3, hi555_3⟩ := at_T65 (Kd.S_reads' HO_5.out).2.2 x17_1 p555 q555; cases e555; obtain ⟨ce555, hce555, hMe555, hcc555⟩ := Kd.S_get HO_5.out z65 x17_1 p555 (by first | exact q555 | exact qD | (have e_ := (Kd.S_reads' HO_5.out).1; omega)); obtain ⟨ve555_3, rfl, ge555_3⟩ := k65_openM hMe555; have hv555_3 := hcc555 3 _ rfl; rw [add_field _ _ 3 (by omega)] at hv555_3; replace hv555_3 := Option.some.inj (hv555_3.symm.trans hx555_3); rw [hv555_3] at ge555_3; have HL555_3 := Aside0.mk (show Kd.R k47 47 _ _ _ _ ((rd_T65 t552 x17_1).f3) from ge555_3); clear hv555_3 ge555_3; clear hcc555 hce555; have HR555_3 := Aside0.mk hi555_3; have HC555_3 := Aside0.mk hl555_3; clear hi555_3 hl555_3; replace p555 := eq_true p555; replace q555 := eq_true q555; have p556 : 0 ≤ (x17_1 : Int) := qD; have q556 : x17_1 < (l1.length : Int) := qD; obtain ⟨ad556, A556_3, c556_3, e556, hx556_0, hx556_1, hx556_2, hx556_3, hl556_3, hi556_3⟩ := at_T65 HR1.out x17_1 p556 q556; cases e556; replace hx556_0 := pw_cell_below HB.out hx556_0; replace hx556_1 := pw_cell_below HB.out hx556_1; replace hx556_2 := pw_cell_below HB.out hx556_2; replace hx556_3 := pw_cell_below HB.out hx556_3; have HR556_3 := Aside0.mk hi556_3
         have HC556_3 := Aside0.mk hl556_3; clear hi556_3 hl556_3; replace p556 := eq_true p556; replace q556 := eq_true q556
         go_wp2
         repeat (go_quiet (fail); try go_wp2)
         go_meet
         case rel => exact ⟨_, (true), qE, H', ⟨by have := HK1.out; first | omega | exact Nat.le_refl _⟩, ⟨by (with_reducible repeat (first | apply Kd.S_alloc | apply Kd.S_drewN | apply Kd.S_drew)); exact HO_5.out⟩, ⟨qB⟩⟩
        rw [if_neg c11] at H; exact absurd H (by simp)
       exact absurd H (by simp)
      exact absurd H (by simp)
     case rest =>
      clear HC8
      try clear p2 p2
      try clear p5
      try clear q5
      try clear hx5
      try clear hx555_0
      try clear hx555_1
      try clear hx555_2
      try clear hx555_3
      try clear hx556_0
      try clear hx556_1
      try clear hx556_2
      try clear hx556_3
      try clear hx557_0
      try clear hx557_1
      try clear hx557_2
      try clear hx557_3
      try clear hx558_0
      try clear hx558_1
      try clear hx558_2
      try clear hx558_3
      try clear hx559_0
      try clear hx559_1
      try clear hx559_2
      try clear hx559_3
      try clear hx560_0
      try clear hx560_1
      try clear hx560_2
      try clear hx560_3
      try clear hx561_0
      try clear hx561_1
      try clear hx561_2
      try clear hx561_3
      try clear hx562_0
      try clear hx562_1
      try clear hx562_2
      try clear hx562_3
      try clear p555
      try clear p556
      try clear p557
      try clear p558
      try clear p559
      try clear p560
      try clear p561
      try clear p562
      try clear q555
      try clear q556
      try clear q557
      try clear q558
      try clear q559
      try clear q560
      try clear q561
      try clear q562
      obtain ⟨kq, x71_7, rfl, HA, HJ7, HO_5, HB⟩ := hcut; cases kq with
      | zero => exact absurd HA.out (by simp [whirligiglaw22_same.j1])
      | succ kj7 =>
       have H := HA.out; clear HA; simp only [whirligiglaw22_same.j1] at H
       by_cases c15 : x71_7 = true
       ·subst c15; rw [if_pos rfl] at H; obtain rfl := Option.some.inj H
        go_wp2
        repeat (go_quiet (fail); try go_wp2)
        go_ret; exact ⟨qR, qB⟩
       replace c15 := Bool.eq_false_iff.mpr c15; subst c15; rw [if_neg (show ¬ (false = true) by decide)] at H
       by_cases c16 : 0 ≤ x17_1
       ·rw [if_pos c16] at H; have c16b0 := decide_eq_true c16; clear c16
        by_cases c17 : x17_1 < (t552.length : Int)
        ·rw [if_pos c17] at H; have c17b0 := decide_eq_true c17; clear c17; have H' := Aside0.mk H; clear H; have p563 : 0 ≤ (x17_1 : Int) := qD; have q563 : x17_1 < (t552.length : Int) := qD; obtain ⟨ad563, A563_3, c563_3, e563, hx563_0, hx563_1, hx563_2, hx563_3, hl563_3, hi563_3⟩ := at_T65 (Kd.S_reads' HO_5.out).2.2 x17_1 p563 q563; cases e563; obtain ⟨ce563, hce563, hMe563, hcc563⟩ := Kd.S_get HO_5.out z65 x17_1 p563 (by first | exact q563 | exact qD | (have e_ := (Kd.S_reads' HO_5.out).1; omega)); obtain ⟨ve563_3, rfl, ge563_3⟩ := k65_openM hMe563; have hv563_3 := hcc563 3 _ rfl; rw [add_field _ _ 3 (by omega)] at hv563_3; replace hv563_3 := Option.some.inj (hv563_3.symm.trans hx563_3); rw [hv563_3] at ge563_3; have HL563_3 := Aside0.mk (show Kd.R k47 47 _ _ _ _ ((rd_T65 t552 x17_1).f3) from ge563_3); clear hv563_3 ge563_3; clear hcc563 hce563; have HR563_3 := Aside0.mk hi563_3; have HC563_3 := Aside0.mk hl563_3; clear hi563_3 hl563_3; replace p563 := eq_true p563; replace q563 := eq_true q563
         go_wp2
         repeat (go_quiet (fail); try go_wp2)
         go_loopg [78] kj7 (fun kq v78 w' => ∃ (x78_3 : Int), v78 = .int .i64 x78_3 ∧ Aside0 (whirligiglaw22_same.l1 kq l1 t552 x17_1 (t552.length : Int) x17_1 (((rd_T65 t552 x17_1).f3).length : Int) x78_3 = some r) ∧ Aside0 (kq ≤ kj7) ∧ Aside0 (Kd.S k65 65 w' w.heap.size (fun _ => True) (.slice (some ad563) t552.length co6) t552) ∧ Aside0 (Kd.C k47 w' A563_3 ((rd_T65 t552 x17_1).f3).length ((rd_T65 t552 x17_1).f3)) ∧ Aside0 (Below w.heap.size w w'))
         case atStart => exact ⟨(0), qE, H', ⟨Nat.le_refl _⟩, ⟨by (with_reducible repeat (first | apply Kd.S_alloc | apply Kd.S_drewN | apply Kd.S_drew)); exact HO_5.out⟩, ⟨by repeat (first | (with_reducible exact HR563_3.out) | (with_reducible refine Kd.C_alloc ?_ _) | (with_reducible refine Kd.C_drewN ?_ _) | (with_reducible refine Kd.C_drew ?_) | exact HR563_3.out)⟩, ⟨qB⟩⟩
         case round =>
          clear H'
          try clear p2 p2
          try clear p5 p5
          try clear q5 q5
          try clear hx5
          try clear hx555_0
          try clear hx555_1
          try clear hx555_2
          try clear hx555_3
          try clear hx556_0
          try clear hx556_1
          try clear hx556_2
          try clear hx556_3
          try clear hx557_0
          try clear hx557_1
          try clear hx557_2
          try clear hx557_3
          try clear hx558_0
          try clear hx558_1
          try clear hx558_2
          try clear hx558_3
          try clear hx559_0
          try clear hx559_1
          try clear hx559_2
          try clear hx559_3
          try clear hx560_0
          try clear hx560_1
          try clear hx560_2
          try clear hx560_3
          try clear hx561_0
          try clear hx561_1
          try clear hx561_2
          try clear hx561_3
          try clear hx562_0
          try clear hx562_1
          try clear hx562_2
          try clear hx562_3
          try clear hx563_0
          try clear hx563_1
          try clear hx563_2
          try clear hx563_3
          try clear p555
          try clear p556
          try clear p557
          try clear p558
          try clear p559
          try clear p560
          try clear p561
          try clear p562
          try clear p563
          try clear q555
          try clear q556
          try clear q557
          try clear q558
          try clear q559
          try clear q560
          try clear q561
          try clear q562
          try clear q563
          obtain ⟨x78_3, rfl, HA, HK3, HO_5, HR563_3, HB⟩ := hrel; cases gk with
          | zero => exact absurd HA.out (by simp [whirligiglaw22_same.l1])
          | succ k3 =>
           have H := HA.out; clear HA; simp only [whirligiglaw22_same.l1] at H; replace H := iD H
           rcases H with ⟨c18b0, H⟩ | ⟨c18b0, H⟩
           ·by_cases c19 : 0 ≤ x17_1
            ·rw [if_pos c19] at H; have c19b0 := decide_eq_true c19; clear c19; replace H := iD H
             rcases H with ⟨c20b0, H⟩ | ⟨c20b0, H⟩
             ·by_cases c21 : 0 ≤ x78_3
              ·rw [if_pos c21] at H; have c21b0 := decide_eq_true c21; clear c21; replace H := iD H
               rcases H with ⟨c22b0, H⟩ | ⟨c22b0, H⟩
               ·by_cases c23 : x17_1 < (l1.length : Int)
                ·rw [if_pos c23] at H; have c23b0 := decide_eq_true c23; clear c23; replace H := iD H
                 rcases H with ⟨c24b0, H⟩ | ⟨c24b0, H⟩
                 ·by_cases c25 : (!(((rd_T47 ((rd_T65 t552 x17_1).f3) x78_3).f0) == ((rd_T47 ((rd_T65 l1 x17_1).f3) x78_3).f0)) || (!(((rd_T47 ((rd_T65 t552 x17_1).f3) x78_3).f1) == ((rd_T47 ((rd_T65 l1 x17_1).f3) x78_3).f1)) || (!((((rd_T47 ((rd_T65 t552 x17_1).f3) x78_3).f2).toList) == (((rd_T47 ((rd_T65 l1 x17_1).f3) x78_3).f2).toList)) || (!(((rd_T47 ((rd_T65 t552 x17_1).f3) x78_3).f3) == ((rd_T47 ((rd_T65 l1 x17_1).f3) x78_3).f3)))))) = true
                  ·rw [if_pos c25] at H; have c25b0 : (!(((rd_T47 ((rd_T65 t552 x17_1).f3) x78_3).f0) == ((rd_T47 ((rd_T65 l1 x17_1).f3) x78_3).f0)) || (!(((rd_T47 ((rd_T65 t552 x17_1).f3) x78_3).f1) == ((rd_T47 ((rd_T65 l1 x17_1).f3) x78_3).f1)) || (!((((rd_T47 ((rd_T65 t552 x17_1).f3) x78_3).f2).toList) == (((rd_T47 ((rd_T65 l1 x17_1).f3) x78_3).f2).toList)) || (!(((rd_T47 ((rd_T65 t552 x17_1).f3) x78_3).f3) == ((rd_T47 ((rd_T65 l1 x17_1).f3) x78_3).f3)))))) = true := c25; clear c25; obtain rfl := Option.some.inj H; have p564 : 0 ≤ (x17_1 : Int) := qD; have q564 : x17_1 < (t552.length : Int) := qD; obtain ⟨ad564, A564_3, c564_3, e564, hx564_0, hx564_1, hx564_2, hx564_3, hl564_3, hi564_3⟩ := at_T65 (Kd.S_reads' HO_5.out).2.2 x17_1 p564 q564; obtain rfl : ad563 = ad564 := (by injection e564); obtain ⟨ce564, hce564, hMe564, hcc564⟩ := Kd.S_get HO_5.out z65 x17_1 p564 (by first | exact q564 | exact qD | (have e_ := (Kd.S_reads' HO_5.out).1; omega)); obtain ⟨ve564_3, rfl, ge564_3⟩ := k65_openM hMe564; have hv564_3 := hcc564 3 _ rfl; rw [add_field _ _ 3 (by omega)] at hv564_3; replace hv564_3 := Option.some.inj (hv564_3.symm.trans hx564_3); rw [hv564_3] at ge564_3; have HL564_3 := Aside0.mk (show Kd.R k47 47 _ _ _ _ ((rd_T65 t552 x17_1).f3) from ge564_3); clear hv564_3 ge564_3; clear hcc564 hce564; have HR564_3 := Aside0.mk hi564_3; have HC564_3 := Aside0.mk hl564_3; clear hi564_3 hl564_3; replace p564 := eq_true p564; replace q564 := eq_true q564
                   have p565 : 0 ≤ (x78_3 : Int) := qD; have q565 : x78_3 < (((rd_T65 t552 x17_1).f3).length : Int) := qD; obtain ⟨ad565, e565, hx565_0, hx565_1, hx565_2, hx565_3⟩ := at_T47 (by repeat (first | (with_reducible exact HR564_3.out) | (with_reducible refine Kd.C_alloc ?_ _) | (with_reducible refine Kd.C_drewN ?_ _) | (with_reducible refine Kd.C_drew ?_) | exact HR564_3.out)) x78_3 p565 q565; cases e565; replace p565 := eq_true p565; replace q565 := eq_true q565; have p566 : 0 ≤ (x17_1 : Int) := qD; have q566 : x17_1 < (l1.length : Int) := qD; obtain ⟨ad566, A566_3, c566_3, e566, hx566_0, hx566_1, hx566_2, hx566_3, hl566_3, hi566_3⟩ := at_T65 HR1.out x17_1 p566 q566; cases e566; replace hx566_0 := pw_cell_below HB.out hx566_0; replace hx566_1 := pw_cell_below HB.out hx566_1; replace hx566_2 := pw_cell_below HB.out hx566_2; replace hx566_3 := pw_cell_below HB.out hx566_3; have HR566_3 := Aside0.mk hi566_3; have HC566_3 := Aside0.mk hl566_3; clear hi566_3 hl566_3; replace p566 := eq_true p566; replace q566 := eq_true q566; have p567 : 0 ≤ (x78_3 : Int) := qD; have q567 : x78_3 < (((rd_T65 l1 x17_1).f3).length : Int) := qD; obtain ⟨ad567, e567, hx567_0, hx567_1, hx567_2, hx567_3⟩ := at_T47 (Kd.C_below HR566_3.out HB.out) x78_3 p567 q567; cases e567; replace p567 := eq_true p567; replace q567 := eq_true q567
                   go_wp2
                   repeat (go_quiet (fail); try go_wp2)
                   go_ret; exact ⟨qR, qB⟩
                  rw [if_neg c25] at H; have c25b0 : (!(((rd_T47 ((rd_T65 t552 x17_1).f3) x78_3).f0) == ((rd_T47 ((rd_T65 l1 x17_1).f3) x78_3).f0)) || (!(((rd_T47 ((rd_T65 t552 x17_1).f3) x78_3).f1) == ((rd_T47 ((rd_T65 l1 x17_1).f3) x78_3).f1)) || (!((((rd_T47 ((rd_T65 t552 x17_1).f3) x78_3).f2).toList) == (((rd_T47 ((rd_T65 l1 x17_1).f3) x78_3).f2).toList)) || (!(((rd_T47 ((rd_T65 t552 x17_1).f3) x78_3).f3) == ((rd_T47 ((rd_T65 l1 x17_1).f3) x78_3).f3)))))) = false := by simpa using c25
                  clear c25; have H' := Aside0.mk H; clear H; have p564 : 0 ≤ (x17_1 : Int) := qD; have q564 : x17_1 < (t552.length : Int) := qD; obtain ⟨ad564, A564_3, c564_3, e564, hx564_0, hx564_1, hx564_2, hx564_3, hl564_3, hi564_3⟩ := at_T65 (Kd.S_reads' HO_5.out).2.2 x17_1 p564 q564; obtain rfl : ad563 = ad564 := (by injection e564); obtain ⟨ce564, hce564, hMe564, hcc564⟩ := Kd.S_get HO_5.out z65 x17_1 p564 (by first | exact q564 | exact qD | (have e_ := (Kd.S_reads' HO_5.out).1; omega)); obtain ⟨ve564_3, rfl, ge564_3⟩ := k65_openM hMe564; have hv564_3 := hcc564 3 _ rfl; rw [add_field _ _ 3 (by omega)] at hv564_3; replace hv564_3 := Option.some.inj (hv564_3.symm.trans hx564_3); rw [hv564_3] at ge564_3; have HL564_3 := Aside0.mk (show Kd.R k47 47 _ _ _ _ ((rd_T65 t552 x17_1).f3) from ge564_3); clear hv564_3 ge564_3; clear hcc564 hce564; have HR564_3 := Aside0.mk hi564_3; have HC564_3 := Aside0.mk hl564_3; clear hi564_3 hl564_3; replace p564 := eq_true p564; replace q564 := eq_true q564; have p565 : 0 ≤ (x78_3 : Int) := qD; have q565 : x78_3 < (((rd_T65 t552 x17_1).f3).length : Int) := qD; obtain ⟨ad565, e565, hx565_0, hx565_1, hx565_2, hx565_3⟩ := at_T47 (by repeat (first | (with_reducible exact HR564_3.out) | (with_reducible refine Kd.C_alloc ?_ _) | (with_reducible refine Kd.C_drewN ?_ _) | (with_reducible refine Kd.C_drew ?_) | exact HR564_3.out)) x78_3 p565 q565; cases e565; replace p565 := eq_true p565; replace q565 := eq_true q565
                  have p566 : 0 ≤ (x17_1 : Int) := qD; have q566 : x17_1 < (l1.length : Int) := qD; obtain ⟨ad566, A566_3, c566_3, e566, hx566_0, hx566_1, hx566_2, hx566_3, hl566_3, hi566_3⟩ := at_T65 HR1.out x17_1 p566 q566; cases e566; replace hx566_0 := pw_cell_below HB.out hx566_0; replace hx566_1 := pw_cell_below HB.out hx566_1; replace hx566_2 := pw_cell_below HB.out hx566_2; replace hx566_3 := pw_cell_below HB.out hx566_3; have HR566_3 := Aside0.mk hi566_3; have HC566_3 := Aside0.mk hl566_3; clear hi566_3 hl566_3; replace p566 := eq_true p566; replace q566 := eq_true q566; have p567 : 0 ≤ (x78_3 : Int) := qD; have q567 : x78_3 < (((rd_T65 l1 x17_1).f3).length : Int) := qD; obtain ⟨ad567, e567, hx567_0, hx567_1, hx567_2, hx567_3⟩ := at_T47 (Kd.C_below HR566_3.out HB.out) x78_3 p567 q567; cases e567; replace p567 := eq_true p567; replace q567 := eq_true q567
                  go_wp2
                  repeat (go_quiet (fail); try go_wp2)
                  go_roundg k3
                  case measure => have := HK1.out; have := HJ7.out; have := HK3.out; omega
                  case rel => exact ⟨(wrap64 (x78_3 + 1)), qE, H', ⟨by have := HK1.out; have := HJ7.out; have := HK3.out; omega⟩, ⟨by (with_reducible repeat (first | apply Kd.S_alloc | apply Kd.S_drewN | apply Kd.S_drew)); exact HO_5.out⟩, ⟨by repeat (first | (with_reducible exact HR563_3.out) | (with_reducible refine Kd.C_alloc ?_ _) | (with_reducible refine Kd.C_drewN ?_ _) | (with_reducible refine Kd.C_drew ?_) | exact HR563_3.out)⟩, ⟨qB⟩⟩
                 exact absurd H (by simp)
                rw [if_neg c23] at H; exact absurd H (by simp)
               exact absurd H (by simp)
              rw [if_neg c21] at H; exact absurd H (by simp)
             exact absurd H (by simp)
            rw [if_neg c19] at H; exact absurd H (by simp)
           have H' := Aside0.mk H; clear H
           go_wp2
           repeat (go_quiet (fail); try go_wp2)
           go_roundg k3
           case measure => have := HK1.out; have := HJ7.out; have := HK3.out; omega
           case rel => exact ⟨(wrap64 (x17_1 + 1)), qE, H', ⟨by have := HK1.out; have := HJ7.out; have := HK3.out; omega⟩, ⟨by (with_reducible repeat (first | apply Kd.S_alloc | apply Kd.S_drewN | apply Kd.S_drew)); exact HO_5.out⟩, ⟨qB⟩⟩
        rw [if_neg c17] at H; exact absurd H (by simp)
       rw [if_neg c16] at H; exact absurd H (by simp)
    rw [if_neg c7] at H
    have c7b0 := decide_eq_false c7
    clear c7
    obtain rfl := Option.some.inj H
    go_wp2
    repeat (go_quiet (fail); try go_wp2)
    go_ret
    exact ⟨qR, qB⟩
 rw [if_neg c4] at H
 have c4b0 := beq_eq_false_iff_ne.mpr c4
 have c4b1 := bne_iff_ne.mpr c4
 have c4b2 : (t552.length == l1.length) = false := by first | simpa using c4 | (simp at c4 ⊢; omega)
 obtain rfl := Option.some.inj H
 go_enter Tryd.func46, Tryd.ntmps46
 go_wp2_with (first | (go_at_call 37; (with_reducible refine (whirligiglaw22_refs.calls k _ _ l0 t552 _ ?side1 ?side2 A3.out).mono ?_); (case side1 => repeat (first | exact HR0.out | (with_reducible refine Kd.C_alloc ?_ _) | (with_reducible refine Kd.C_drewN ?_ _) | (with_reducible refine Kd.C_drew ?_))); (case side2 => exact HC0.out); rintro e w26 ⟨v553, rfl, ho0, hb⟩; have HO554 := Aside0.mk (Kd.S_lower ho0 (below_size qB)); replace HB := bst hb; (try clear hb); (try clear ho0); obtain ⟨Ao27, co27, eo27⟩ := Kd.S_slice HO554.out; subst eo27))
 repeat (go_quiet (first | (go_at_call 37; (with_reducible refine (whirligiglaw22_refs.calls k _ _ l0 t552 _ ?side1 ?side2 A3.out).mono ?_); (case side1 => repeat (first | exact HR0.out | (with_reducible refine Kd.C_alloc ?_ _) | (with_reducible refine Kd.C_drewN ?_ _) | (with_reducible refine Kd.C_drew ?_))); (case side2 => exact HC0.out); rintro e w26 ⟨v553, rfl, ho0, hb⟩; have HO554 := Aside0.mk (Kd.S_lower ho0 (below_size qB)); replace HB := bst hb; (try clear hb); (try clear ho0); obtain ⟨Ao27, co27, eo27⟩ := Kd.S_slice HO554.out; subst eo27)); try go_wp2_with (first | (go_at_call 37; (with_reducible refine (whirligiglaw22_refs.calls k _ _ l0 t552 _ ?side1 ?side2 A3.out).mono ?_); (case side1 => repeat (first | exact HR0.out | (with_reducible refine Kd.C_alloc ?_ _) | (with_reducible refine Kd.C_drewN ?_ _) | (with_reducible refine Kd.C_drew ?_))); (case side2 => exact HC0.out); rintro e w26 ⟨v553, rfl, ho0, hb⟩; have HO554 := Aside0.mk (Kd.S_lower ho0 (below_size qB)); replace HB := bst hb; (try clear hb); (try clear ho0); obtain ⟨Ao27, co27, eo27⟩ := Kd.S_slice HO554.out; subst eo27)))
 go_ret
 exact ⟨qR, qB⟩
end Go.Proofs.YtbngfhlciebeeaaDoor.L
