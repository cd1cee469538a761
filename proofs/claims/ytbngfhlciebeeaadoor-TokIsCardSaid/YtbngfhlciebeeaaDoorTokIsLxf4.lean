/- Printed and hand-written steps towards the row (TokIs), those that it reaches. -/
import Derived.Test.YtbngfhlciebeeaaDoorTokIsLx0
import Derived.Test.YtbngfhlciebeeaaDoorTokIsLxf19
import Derived.Test.YtbngfhlciebeeaaDoorTokIsLxf3
import Derived.Test.YtbngfhlciebeeaaDoorTokIsGLex
namespace Go.Proofs.YtbngfhlciebeeaaDoor.L
open Go.RowKit Go.Proofs.YtbngfhlciebeeaaDoorW.PrintWords Go.Proofs.YtbngfhlciebeeaaDoorW.PrintLast Go.Proofs.YtbngfhlciebeeaaDoorW.PrintMore
attribute [local go_sem] max2_int min2_int max_two min_two max_three min_three max_four min_four   -- for this text's walks alone
set_option linter.unusedVariables false
set_option linter.unusedSimpArgs false
def whirligiglaw02_TokPlaces.l0 : Nat → ByteArray → Int → List (S32) → Int → Int → Option (Bool)
  | 0, _, _, _, _, _ => none
  | k + 1, x0, x6, x26, x27, x28 => if x28 < x27 then (if 0 ≤ x28 then (if x28 < (x26.length : Int) then (if ((rd_T32 x26 x28).f0) = 4 then (if 1 + ((rd_T32 x26 x28).f1).size ≤ 9223372036854775807 then (if (1 + ((rd_T32 x26 x28).f1).size) + 1 ≤ 9223372036854775807 then (if ((rd_T32 x26 x28).f3) < x6 then (some false) else (if ((rd_T32 x26 x28).f3) > (wrap64 ((x0.size : Int) - (1 + (((rd_T32 x26 x28).f1).size : Int) + 1))) then (some false) else (if 0 ≤ ((rd_T32 x26 x28).f3) then (if ((rd_T32 x26 x28).f3) ≤ (wrap64 (((rd_T32 x26 x28).f3) + (1 + (((rd_T32 x26 x28).f1).size : Int) + 1))) then (if (wrap64 (((rd_T32 x26 x28).f3) + (1 + (((rd_T32 x26 x28).f1).size : Int) + 1))) ≤ (x0.size : Int) then (if (x0.extract (((rd_T32 x26 x28).f3) : Int).toNat ((wrap64 (((rd_T32 x26 x28).f3) + (1 + (((rd_T32 x26 x28).f1).size : Int) + 1))) : Int).toNat).toList = (((⟨#[39]⟩ : ByteArray) ++ ((rd_T32 x26 x28).f1)) ++ (⟨#[39]⟩ : ByteArray)).toList then (if 0 ≤ x6 then (if x6 ≤ ((rd_T32 x26 x28).f3) then (if ((rd_T32 x26 x28).f3) ≤ (x0.size : Int) then ((whirligiglaw02_blank.f k (x0.extract (x6 : Int).toNat (((rd_T32 x26 x28).f3) : Int).toNat)).bind fun t244 => (if t244 = true then (whirligiglaw02_TokPlaces.l0 k x0 (wrap64 (((rd_T32 x26 x28).f3) + (1 + (((rd_T32 x26 x28).f1).size : Int) + 1))) x26 x27 (wrap64 (x28 + 1))) else (some false))) else (none)) else (none)) else (none)) else (some false)) else (none)) else (none)) else (none)))) else (none)) else (none)) else (if ((rd_T32 x26 x28).f3) < x6 then (some false) else (if ((rd_T32 x26 x28).f3) > (wrap64 ((x0.size : Int) - (((rd_T32 x26 x28).f1).size : Int))) then (some false) else (if 0 ≤ ((rd_T32 x26 x28).f3) then (if ((rd_T32 x26 x28).f3) ≤ (wrap64 (((rd_T32 x26 x28).f3) + (((rd_T32 x26 x28).f1).size : Int))) then (if (wrap64 (((rd_T32 x26 x28).f3) + (((rd_T32 x26 x28).f1).size : Int))) ≤ (x0.size : Int) then (if (x0.extract (((rd_T32 x26 x28).f3) : Int).toNat ((wrap64 (((rd_T32 x26 x28).f3) + (((rd_T32 x26 x28).f1).size : Int))) : Int).toNat).toList = ((rd_T32 x26 x28).f1).toList then (if 0 ≤ x6 then (if x6 ≤ ((rd_T32 x26 x28).f3) then (if ((rd_T32 x26 x28).f3) ≤ (x0.size : Int) then ((whirligiglaw02_blank.f k (x0.extract (x6 : Int).toNat (((rd_T32 x26 x28).f3) : Int).toNat)).bind fun t245 => (if t245 = true then (whirligiglaw02_TokPlaces.l0 k x0 (wrap64 (((rd_T32 x26 x28).f3) + (((rd_T32 x26 x28).f1).size : Int))) x26 x27 (wrap64 (x28 + 1))) else (some false))) else (none)) else (none)) else (none)) else (some false)) else (none)) else (none)) else (none))))) else (none)) else (none)) else (if 0 ≤ x6 then (if x6 ≤ (x0.size : Int) then ((whirligiglaw02_blank.f k (x0.extract (x6 : Int).toNat x0.size)).bind fun t241 => (some t241)) else (none)) else (none))
def whirligiglaw02_TokPlaces.f (k : Nat) (a0 : ByteArray) : Option (Bool) := (whirligiglaw02_anchor.f k).bind fun t235 => (if t235 = true then (if (a0.size : Int) > 1000 then (some true) else ((tok_Lex.f k a0).bind fun bt236 => (if bt236.2.1 = 0 then (whirligiglaw02_TokPlaces.l0 k a0 0 bt236.1 (bt236.1.length : Int) 0) else (some ((bt236.1.length : Int) == 0))))) else (some false))
theorem whirligiglaw02_TokPlaces.mono_l : ∀ k, (∀ y0 y1 y2 y3 y4, LeO (whirligiglaw02_TokPlaces.l0 k y0 y1 y2 y3 y4) (whirligiglaw02_TokPlaces.l0 (k + 1) y0 y1 y2 y3 y4))
  | 0 => fun _ _ _ _ _ r h => by simp [whirligiglaw02_TokPlaces.l0] at h
  | k + 1 => by
    have ih0 := whirligiglaw02_TokPlaces.mono_l k
    · intro y0 y1 y2 y3 y4
      unfold whirligiglaw02_TokPlaces.l0
      repeat' first
      | (with_reducible exact ih0 _ _ _ _ _)
      | (with_reducible exact tok_Lex.mono _ _)
      | (with_reducible exact whirligiglaw02_anchor.mono _)
      | (with_reducible exact whirligiglaw02_blank.mono _ _)
      | (with_reducible exact LeO.refl _)
      | (with_reducible exact LeO.none _)
      | (with_reducible refine LeO.ite ?_ ?_)
      | (with_reducible refine LeO.bind ?_ (fun _ => ?_))
      | exact ih0 _ _ _ _ _
      | exact tok_Lex.mono _ _
      | exact whirligiglaw02_anchor.mono _
      | exact whirligiglaw02_blank.mono _ _
      | exact LeO.none _
      | refine LeO.ite ?_ ?_
      | refine LeO.bind ?_ (fun _ => ?_)
theorem whirligiglaw02_TokPlaces.mono : ∀ a0 k, LeO (whirligiglaw02_TokPlaces.f k a0) (whirligiglaw02_TokPlaces.f (k + 1) a0) := by
  intro a0 k
  have ih0 := whirligiglaw02_TokPlaces.mono_l k
  unfold whirligiglaw02_TokPlaces.f
  repeat' first
      | (with_reducible exact ih0 _ _ _ _ _)
      | (with_reducible exact tok_Lex.mono _ _)
      | (with_reducible exact whirligiglaw02_anchor.mono _)
      | (with_reducible exact whirligiglaw02_blank.mono _ _)
      | (with_reducible exact LeO.refl _)
      | (with_reducible exact LeO.none _)
      | (with_reducible refine LeO.ite ?_ ?_)
      | (with_reducible refine LeO.bind ?_ (fun _ => ?_))
      | exact ih0 _ _ _ _ _
      | exact tok_Lex.mono _ _
      | exact whirligiglaw02_anchor.mono _
      | exact whirligiglaw02_blank.mono _ _
      | exact LeO.none _
      | refine LeO.ite ?_ ?_
      | refine LeO.bind ?_ (fun _ => ?_)
mutual
def tok_Token_Is.j0 : Nat → List ByteArray → Bool → Int → ByteArray → Int → Int → Option (Bool)
  | 0, _, _, _, _, _, _ => none
  | k + 1, x1, x14, x247000, x247001, x247002, x247003 => if x14 = true then (some false) else (tok_Token_Is.l0 k x1 (x1.length : Int) 0 x247000 x247001 x247002 x247003)
def tok_Token_Is.l0 : Nat → List ByteArray → Int → Int → Int → ByteArray → Int → Int → Option (Bool)
  | 0, _, _, _, _, _, _, _ => none
  | k + 1, x15, x16, x17, x247000, x247001, x247002, x247003 => if x17 < x16 then (if 0 ≤ x17 then (if x17 < (x15.length : Int) then (if x247001.toList = (rdOf ByteArray.empty x15 x17).toList then (some true) else (tok_Token_Is.l0 k x15 x16 (wrap64 (x17 + 1)) x247000 x247001 x247002 x247003)) else (none)) else (none)) else (some false)
end
def tok_Token_Is.f (k : Nat) (a0_0 : Int) (a0_1 : ByteArray) (a0_2 : Int) (a0_3 : Int) (l1 : List ByteArray) : Option (Bool) := if a0_0 = 1 then (tok_Token_Is.j0 k l1 false a0_0 a0_1 a0_2 a0_3) else (tok_Token_Is.j0 k l1 (a0_0 != 5) a0_0 a0_1 a0_2 a0_3)
theorem tok_Token_Is.mono_l : ∀ k, (∀ y0 y1 y2 y3 y4 y5, LeO (tok_Token_Is.j0 k y0 y1 y2 y3 y4 y5) (tok_Token_Is.j0 (k + 1) y0 y1 y2 y3 y4 y5)) ∧ (∀ y0 y1 y2 y3 y4 y5 y6, LeO (tok_Token_Is.l0 k y0 y1 y2 y3 y4 y5 y6) (tok_Token_Is.l0 (k + 1) y0 y1 y2 y3 y4 y5 y6))
  | 0 => ⟨fun _ _ _ _ _ _ r h => by simp [tok_Token_Is.j0] at h, fun _ _ _ _ _ _ _ r h => by simp [tok_Token_Is.l0] at h⟩
  | k + 1 => by
    obtain ⟨ih0, ih1⟩ := tok_Token_Is.mono_l k
    refine ⟨?_, ?_⟩
    · intro y0 y1 y2 y3 y4 y5
      unfold tok_Token_Is.j0
      repeat' first
      | (with_reducible exact ih0 _ _ _ _ _ _)
      | (with_reducible exact ih1 _ _ _ _ _ _ _)
      | (with_reducible exact LeO.refl _)
      | (with_reducible exact LeO.none _)
      | (with_reducible refine LeO.ite ?_ ?_)
      | (with_reducible refine LeO.bind ?_ (fun _ => ?_))
      | exact ih0 _ _ _ _ _ _
      | exact ih1 _ _ _ _ _ _ _
      | exact LeO.none _
      | refine LeO.ite ?_ ?_
      | refine LeO.bind ?_ (fun _ => ?_)
    · intro y0 y1 y2 y3 y4 y5 y6
      unfold tok_Token_Is.l0
      repeat' first
      | (with_reducible exact ih0 _ _ _ _ _ _)
      | (with_reducible exact ih1 _ _ _ _ _ _ _)
      | (with_reducible exact LeO.refl _)
      | (with_reducible exact LeO.none _)
      | (with_reducible refine LeO.ite ?_ ?_)
      | (with_reducible refine LeO.bind ?_ (fun _ => ?_))
      | exact ih0 _ _ _ _ _ _
      | exact ih1 _ _ _ _ _ _ _
      | exact LeO.none _
      | refine LeO.ite ?_ ?_
      | refine LeO.bind ?_ (fun _ => ?_)
theorem tok_Token_Is.mono : ∀ a0 a1 a2 a3 a4 k, LeO (tok_Token_Is.f k a0 a1 a2 a3 a4) (tok_Token_Is.f (k + 1) a0 a1 a2 a3 a4) := by
  intro a0 a1 a2 a3 a4 k
  obtain ⟨ih0, ih1⟩ := tok_Token_Is.mono_l k
  unfold tok_Token_Is.f
  repeat' first
      | (with_reducible exact ih0 _ _ _ _ _ _)
      | (with_reducible exact ih1 _ _ _ _ _ _ _)
      | (with_reducible exact LeO.refl _)
      | (with_reducible exact LeO.none _)
      | (with_reducible refine LeO.ite ?_ ?_)
      | (with_reducible refine LeO.bind ?_ (fun _ => ?_))
      | exact ih0 _ _ _ _ _ _
      | exact ih1 _ _ _ _ _ _ _
      | exact LeO.none _
      | refine LeO.ite ?_ ?_
      | refine LeO.bind ?_ (fun _ => ?_)
set_option maxHeartbeats 8000000 in
set_option maxRecDepth 100000 in
theorem tok_Token_Is.calls (k : Nat) (a0_0 : Int) (a0_1 : ByteArray) (a0_2 : Int) (a0_3 : Int) (A1 : Option Addr) (c1 : Nat) (l1 : List ByteArray) (r : Bool) (w : World) (hr1 : Kd.C Kd.string w A1 l1.length l1) (hc1 : l1.length ≤ c1) (h : tok_Token_Is.f k a0_0 a0_1 a0_2 a0_3 l1 = some r) :
    Calls Tryd.prog 23 #[.agg #[.int .i64 a0_0, .string a0_1, .int .i64 a0_2, .int .i64 a0_3], .slice A1 l1.length c1] w fun e w' => e = .returned (.bool r) ∧ Below w.heap.size w w' := by
  have hu32 := Tryd.underlying32
  have HR1 := Aside0.mk hr1
  have HC1 := Aside0.mk hc1
  clear hr1 hc1
  have HB := Aside0.mk (Below.refl w.heap.size w)
  have H : (if a0_0 = 1 then (tok_Token_Is.j0 k l1 false a0_0 a0_1 a0_2 a0_3) else (tok_Token_Is.j0 k l1 (a0_0 != 5) a0_0 a0_1 a0_2 a0_3)) = some r := h
  clear h
  have HC3 := Aside0.mk H
  clear H
  go_enter Tryd.func23, Tryd.ntmps23
  go_upto_region 1 with (first | ((with_reducible refine gate_dst (N := 2) rfl ?_); refine box_event ?hg (N := 2) ?hd (cs := #[.int .i64 a0_0, .string a0_1, .int .i64 a0_2, .int .i64 a0_3]) (t := 32) ?hr ?_; (case hd => rfl); (case hg => rfl); (case hr => first | (go_simp; done) | (go_simp; rfl)); intro gb246 hg w4 hbox hb; have n0_ := Aside0.mk (below_step (by repeat (first | (with_reducible first | exact HB.out | apply below_alloc | apply pw_below_drewN | apply below_drew1) | exact HB.out)) hb); have n1_ := Aside0.mk (hbox); have n2_ := Aside0.mk ((by rw [hg]; exact (below_size (by repeat (first | (with_reducible first | exact HB.out | apply below_alloc | apply pw_below_drewN | apply below_drew1) | exact HB.out))) : w.heap.size ≤ gb246)); have n3_ := Aside0.mk ((by rw [hg]; exact (below_size (by repeat (first | (with_reducible first | exact HB.out | apply below_alloc | apply pw_below_drewN | apply below_drew1) | exact HB.out))) : w.heap.size ≤ gb246)); clear HB; have HB := n0_; have BK246 := n1_; have GW246 := n2_; have GE246 := n3_; clear n0_ n1_ n2_ n3_; clear hb hbox hg))
  (try simp only [Act.put, List.setIfInBounds_toArray, List.set_cons_zero, List.set_cons_succ])
  go_cut [14] (fun v14 wc => ∃ (kq : Nat) (x14_2 : Bool), v14 = .bool x14_2 ∧ Aside0 (tok_Token_Is.j0 kq l1 x14_2 a0_0 a0_1 a0_2 a0_3 = some r) ∧ Aside0 (kq ≤ k) ∧ Aside0 (wc.heap[gb246]? = some (.cells #[.int .i64 a0_0, .string a0_1, .int .i64 a0_2, .int .i64 a0_3] 32 (0, 0))) ∧ Aside0 (Below w.heap.size w wc))
  case first =>
    have H := HC3.out
    clear HC3
    by_cases c5 : a0_0 = 1
    · rw [if_pos c5] at H
      have c5b0 : (a0_0 == 1) = true := beq_iff_eq.mpr c5
      have c5b1 : (a0_0 != 1) = false := bne_eq_false_iff_eq.mpr c5
      clear c5
      (first | rw [c5b0] | (simp only [i64_w, i32_w]; rw [c5b0]) | skip)
      have H' := Aside0.mk H
      clear H
      have hcz6_0 : w4.cell? ⟨gb246, 0, none⟩ = some (.int .i64 a0_0) := (blk_cell BK246.out 0).trans rfl
      have hcz6_1 : w4.cell? ⟨gb246, 1, none⟩ = some (.string a0_1) := (blk_cell BK246.out 1).trans rfl
      have hcz6_2 : w4.cell? ⟨gb246, 2, none⟩ = some (.int .i64 a0_2) := (blk_cell BK246.out 2).trans rfl
      have hcz6_3 : w4.cell? ⟨gb246, 3, none⟩ = some (.int .i64 a0_3) := (blk_cell BK246.out 3).trans rfl
      have hfz6_0 := blk_frozen BK246.out 0
      have hfz6_1 := blk_frozen BK246.out 1
      have hfz6_2 := blk_frozen BK246.out 2
      have hfz6_3 := blk_frozen BK246.out 3
      go_wp2
      go_meet
      case rel => exact ⟨_, (false), (by first | rfl | (simp; done) | (simp [*]; done)), H', ⟨by first | omega | exact Nat.le_refl _⟩, ⟨by (with_reducible repeat (first | refine blk_drewN ?_ _ | refine blk_drew ?_ | refine blk_alloc ?_ _)); exact BK246.out⟩, ⟨by repeat (first | (with_reducible first | exact HB.out | apply below_alloc | apply pw_below_drewN | apply below_drew1 | refine below_set ?_ GE246.out) | exact HB.out)⟩⟩
    · rw [if_neg c5] at H
      have c5b0 : (a0_0 == 1) = false := beq_eq_false_iff_ne.mpr c5
      have c5b1 : (a0_0 != 1) = true := bne_iff_ne.mpr c5
      (first | rw [c5b0] | (simp only [i64_w, i32_w]; rw [c5b0]) | skip)
      have H' := Aside0.mk H
      clear H
      have hcz7_0 : w4.cell? ⟨gb246, 0, none⟩ = some (.int .i64 a0_0) := (blk_cell BK246.out 0).trans rfl
      have hcz7_1 : w4.cell? ⟨gb246, 1, none⟩ = some (.string a0_1) := (blk_cell BK246.out 1).trans rfl
      have hcz7_2 : w4.cell? ⟨gb246, 2, none⟩ = some (.int .i64 a0_2) := (blk_cell BK246.out 2).trans rfl
      have hcz7_3 : w4.cell? ⟨gb246, 3, none⟩ = some (.int .i64 a0_3) := (blk_cell BK246.out 3).trans rfl
      have hfz7_0 := blk_frozen BK246.out 0
      have hfz7_1 := blk_frozen BK246.out 1
      have hfz7_2 := blk_frozen BK246.out 2
      have hfz7_3 := blk_frozen BK246.out 3
      go_wp2
      go_meet
      case rel => exact ⟨_, ((a0_0 != 5)), (by first | rfl | (simp; done) | (simp [*]; done)), H', ⟨by first | omega | exact Nat.le_refl _⟩, ⟨by (with_reducible repeat (first | refine blk_drewN ?_ _ | refine blk_drew ?_ | refine blk_alloc ?_ _)); exact BK246.out⟩, ⟨by repeat (first | (with_reducible first | exact HB.out | apply below_alloc | apply pw_below_drewN | apply below_drew1 | refine below_set ?_ GE246.out) | exact HB.out)⟩⟩
  case rest =>
    clear HC3
    try clear c1
    try clear c2
    try clear p2
    try clear c5
    try clear c5b0
    try clear c5b1
    try clear hcz6_0
    try clear hcz6_1
    try clear hcz6_2
    try clear hcz6_3
    try clear hcz7_0
    try clear hcz7_1
    try clear hcz7_2
    try clear hcz7_3
    try clear hfz6_0
    try clear hfz6_1
    try clear hfz6_2
    try clear hfz6_3
    try clear hfz7_0
    try clear hfz7_1
    try clear hfz7_2
    try clear hfz7_3
    obtain ⟨kq, x14_2, rfl, HA, HJ2, BK246, HB⟩ := hcut
    cases kq with
    | zero => exact absurd HA.out (by simp [tok_Token_Is.j0])
    | succ kj2 =>
      have H := HA.out
      clear HA
      simp only [tok_Token_Is.j0] at H
      by_cases c8 : x14_2 = true
      · subst c8
        have H1 : (some false) = some r := by rw [if_pos rfl] at H; exact H
        clear H
        have H := H1
        clear H1
        obtain rfl := Option.some.inj H
        go_wp2
        go_ret
        exact ⟨by first | rfl | (simp [errW_none, errW_some] <;> rfl) | (simp [*, errW_none, errW_some] <;> rfl), by repeat (first | (with_reducible first | exact HB.out | apply below_alloc | apply pw_below_drewN | apply below_drew1 | refine below_set ?_ GE246.out) | exact HB.out)⟩
      · replace c8 := Bool.eq_false_iff.mpr c8
        subst c8
        have H1 : (tok_Token_Is.l0 kj2 l1 (l1.length : Int) 0 a0_0 a0_1 a0_2 a0_3) = some r := by rw [if_neg (show ¬ (false = true) by decide)] at H; exact H
        clear H
        have H := H1
        clear H1
        have H' := Aside0.mk H
        clear H
        go_wp2
        go_loopg [17] kj2 (fun kq v17 w' => ∃ (x17_2 : Int), v17 = .int .i64 x17_2 ∧ Aside0 (tok_Token_Is.l0 kq l1 (l1.length : Int) x17_2 a0_0 a0_1 a0_2 a0_3 = some r) ∧ Aside0 (kq ≤ kj2) ∧ Aside0 (w'.heap[gb246]? = some (.cells #[.int .i64 a0_0, .string a0_1, .int .i64 a0_2, .int .i64 a0_3] 32 (0, 0))) ∧ Aside0 (Below w.heap.size w w'))
        case atStart => exact ⟨(0), (by first | rfl | (simp; done) | (simp [*]; done)), H', ⟨Nat.le_refl _⟩, ⟨by (with_reducible repeat (first | refine blk_drewN ?_ _ | refine blk_drew ?_ | refine blk_alloc ?_ _)); exact BK246.out⟩, ⟨by repeat (first | (with_reducible first | exact HB.out | apply below_alloc | apply pw_below_drewN | apply below_drew1 | refine below_set ?_ GE246.out) | exact HB.out)⟩⟩
        case round =>
          clear H'
          try clear c1
          try clear c2
          try clear p2
          try clear c5
          try clear c5b0
          try clear c5b1
          try clear c8
          try clear hcz6_0
          try clear hcz6_1
          try clear hcz6_2
          try clear hcz6_3
          try clear hcz7_0
          try clear hcz7_1
          try clear hcz7_2
          try clear hcz7_3
          try clear hfz6_0
          try clear hfz6_1
          try clear hfz6_2
          try clear hfz6_3
          try clear hfz7_0
          try clear hfz7_1
          try clear hfz7_2
          try clear hfz7_3
          try clear p2
          obtain ⟨x17_2, rfl, HA, HK2, BK246, HB⟩ := hrel
          cases gk with
          | zero => exact absurd HA.out (by simp [tok_Token_Is.l0])
          | succ k2 =>
            have H := HA.out
            clear HA
            simp only [tok_Token_Is.l0] at H
            by_cases c9 : x17_2 < (l1.length : Int)
            · rw [if_pos c9] at H
              have c9b0 : decide (x17_2 < (l1.length : Int)) = true := decide_eq_true c9
              clear c9
              by_cases c10 : 0 ≤ x17_2
              · rw [if_pos c10] at H
                have c10b0 : decide (0 ≤ x17_2) = true := decide_eq_true c10
                clear c10
                by_cases c11 : x17_2 < (l1.length : Int)
                · rw [if_pos c11] at H
                  have c11b0 : decide (x17_2 < (l1.length : Int)) = true := decide_eq_true c11
                  clear c11
                  by_cases c12 : a0_1.toList = (rdOf ByteArray.empty l1 x17_2).toList
                  · rw [if_pos c12] at H
                    have c12b0 : (a0_1.toList == (rdOf ByteArray.empty l1 x17_2).toList) = true := beq_iff_eq.mpr c12
                    have c12b1 : (a0_1.toList != (rdOf ByteArray.empty l1 x17_2).toList) = false := bne_eq_false_iff_eq.mpr c12
                    clear c12
                    obtain rfl := Option.some.inj H
                    have p247 : 0 ≤ (x17_2 : Int) := of_decide_eq_true (by first | (with_reducible assumption) | assumption)
                    have q247 : x17_2 < (l1.length : Int) := of_decide_eq_true (by first | (with_reducible assumption) | assumption)
                    obtain ⟨ad247, e247, hx247_0⟩ := Kd.at_string HR1.out x17_2 p247 q247
                    cases e247
                    replace hx247_0 := (HB.out.cell (World.block_lt_of_cell? w _ hx247_0)).trans hx247_0
                    replace p247 := eq_true p247
                    replace q247 := eq_true q247
                    have hcz13_0 : wr.cell? ⟨gb246, 0, none⟩ = some (.int .i64 a0_0) := (blk_cell BK246.out 0).trans rfl
                    have hcz13_1 : wr.cell? ⟨gb246, 1, none⟩ = some (.string a0_1) := (blk_cell BK246.out 1).trans rfl
                    have hcz13_2 : wr.cell? ⟨gb246, 2, none⟩ = some (.int .i64 a0_2) := (blk_cell BK246.out 2).trans rfl
                    have hcz13_3 : wr.cell? ⟨gb246, 3, none⟩ = some (.int .i64 a0_3) := (blk_cell BK246.out 3).trans rfl
                    have hfz13_0 := blk_frozen BK246.out 0
                    have hfz13_1 := blk_frozen BK246.out 1
                    have hfz13_2 := blk_frozen BK246.out 2
                    have hfz13_3 := blk_frozen BK246.out 3
                    go_wp2
                    go_ret
                    exact ⟨by first | rfl | (simp [errW_none, errW_some] <;> rfl) | (simp [*, errW_none, errW_some] <;> rfl), by repeat (first | (with_reducible first | exact HB.out | apply below_alloc | apply pw_below_drewN | apply below_drew1 | refine below_set ?_ GE246.out) | exact HB.out)⟩
                  · rw [if_neg c12] at H
                    have c12b0 : (a0_1.toList == (rdOf ByteArray.empty l1 x17_2).toList) = false := beq_eq_false_iff_ne.mpr c12
                    have c12b1 : (a0_1.toList != (rdOf ByteArray.empty l1 x17_2).toList) = true := bne_iff_ne.mpr c12
                    have H' := Aside0.mk H
                    clear H
                    have p247 : 0 ≤ (x17_2 : Int) := of_decide_eq_true (by first | (with_reducible assumption) | assumption)
                    have q247 : x17_2 < (l1.length : Int) := of_decide_eq_true (by first | (with_reducible assumption) | assumption)
                    obtain ⟨ad247, e247, hx247_0⟩ := Kd.at_string HR1.out x17_2 p247 q247
                    cases e247
                    replace hx247_0 := (HB.out.cell (World.block_lt_of_cell? w _ hx247_0)).trans hx247_0
                    replace p247 := eq_true p247
                    replace q247 := eq_true q247
                    have hcz14_0 : wr.cell? ⟨gb246, 0, none⟩ = some (.int .i64 a0_0) := (blk_cell BK246.out 0).trans rfl
                    have hcz14_1 : wr.cell? ⟨gb246, 1, none⟩ = some (.string a0_1) := (blk_cell BK246.out 1).trans rfl
                    have hcz14_2 : wr.cell? ⟨gb246, 2, none⟩ = some (.int .i64 a0_2) := (blk_cell BK246.out 2).trans rfl
                    have hcz14_3 : wr.cell? ⟨gb246, 3, none⟩ = some (.int .i64 a0_3) := (blk_cell BK246.out 3).trans rfl
                    have hfz14_0 := blk_frozen BK246.out 0
                    have hfz14_1 := blk_frozen BK246.out 1
                    have hfz14_2 := blk_frozen BK246.out 2
                    have hfz14_3 := blk_frozen BK246.out 3
                    go_wp2
                    go_roundg k2
                    case measure => have := HJ2.out; have := HK2.out; omega
                    case rel => exact ⟨(wrap64 (x17_2 + 1)), (by first | rfl | (simp; done) | (simp [*]; done)), H', ⟨by have := HJ2.out; have := HK2.out; omega⟩, ⟨by (with_reducible repeat (first | refine blk_drewN ?_ _ | refine blk_drew ?_ | refine blk_alloc ?_ _)); exact BK246.out⟩, ⟨by repeat (first | (with_reducible first | exact HB.out | apply below_alloc | apply pw_below_drewN | apply below_drew1 | refine below_set ?_ GE246.out) | exact HB.out)⟩⟩
                · rw [if_neg c11] at H
                  exact absurd H (by simp)
              · rw [if_neg c10] at H
                exact absurd H (by simp)
            · rw [if_neg c9] at H
              have c9b0 : decide (x17_2 < (l1.length : Int)) = false := decide_eq_false c9
              clear c9
              obtain rfl := Option.some.inj H
              go_wp2
              go_ret
              exact ⟨by first | rfl | (simp [errW_none, errW_some] <;> rfl) | (simp [*, errW_none, errW_some] <;> rfl), by repeat (first | (with_reducible first | exact HB.out | apply below_alloc | apply pw_below_drewN | apply below_drew1 | refine below_set ?_ GE246.out) | exact HB.out)⟩
end Go.Proofs.YtbngfhlciebeeaaDoor.L
