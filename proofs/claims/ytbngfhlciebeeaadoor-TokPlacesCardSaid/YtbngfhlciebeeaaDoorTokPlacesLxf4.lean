/- Printed and hand-written steps towards the row (TokPlaces), those that it reaches. -/
import Derived.Test.YtbngfhlciebeeaaDoorTokPlacesLx0
import Derived.Test.YtbngfhlciebeeaaDoorTokPlacesLxf19
import Derived.Test.YtbngfhlciebeeaaDoorTokPlacesLxf3
import Derived.Test.YtbngfhlciebeeaaDoorTokPlacesGLex
namespace Go.Proofs.YtbngfhlciebeeaaDoor.L
open Go.RowKit Go.Proofs.YtbngfhlciebeeaaDoorW.PrintWords Go.Proofs.YtbngfhlciebeeaaDoorW.PrintLast Go.Proofs.YtbngfhlciebeeaaDoorW.PrintMore
attribute [local go_sem] max2_int min2_int max_two min_two max_three min_three max_four min_four   -- for this text's walks alone
set_option linter.unusedVariables false
set_option linter.unusedSimpArgs false
def whirligiglaw02_TokPlaces.l0 : Nat → ByteArray → Int → List (S32) → Int → Int → Option (Bool)
  | 0, _, _, _, _, _ => none
  | k + 1, x0, x6, x26, x27, x28 => if x28 < x27 then (if 0 ≤ x28 then (if x28 < (x26.length : Int) then (if ((rd_T32 x26 x28).f0) = 4 then (if 1 + ((rd_T32 x26 x28).f1).size ≤ 9223372036854775807 then (if (1 + ((rd_T32 x26 x28).f1).size) + 1 ≤ 9223372036854775807 then (if ((rd_T32 x26 x28).f3) < x6 then (some false) else (if ((rd_T32 x26 x28).f3) > (wrap64 ((x0.size : Int) - (1 + (((rd_T32 x26 x28).f1).size : Int) + 1))) then (some false) else (if 0 ≤ ((rd_T32 x26 x28).f3) then (if ((rd_T32 x26 x28).f3) ≤ (wrap64 (((rd_T32 x26 x28).f3) + (1 + (((rd_T32 x26 x28).f1).size : Int) + 1))) then (if (wrap64 (((rd_T32 x26 x28).f3) + (1 + (((rd_T32 x26 x28).f1).size : Int) + 1))) ≤ (x0.size : Int) then (if (x0.extract (((rd_T32 x26 x28).f3) : Int).toNat ((wrap64 (((rd_T32 x26 x28).f3) + (1 + (((rd_T32 x26 x28).f1).size : Int) + 1))) : Int).toNat).toList = (((⟨#[39]⟩ : ByteArray) ++ ((rd_T32 x26 x28).f1)) ++ (⟨#[39]⟩ : ByteArray)).toList then (if 0 ≤ x6 then (if x6 ≤ ((rd_T32 x26 x28).f3) then (if ((rd_T32 x26 x28).f3) ≤ (x0.size : Int) then ((whirligiglaw02_blank.f k (x0.extract (x6 : Int).toNat (((rd_T32 x26 x28).f3) : Int).toNat)).bind fun t244 => (if t244 = true then (whirligiglaw02_TokPlaces.l0 k x0 (wrap64 (((rd_T32 x26 x28).f3) + (1 + (((rd_T32 x26 x28).f1).size : Int) + 1))) x26 x27 (wrap64 (x28 + 1))) else (some false))) else (none)) else (none)) else (none)) else (some false)) else (none)) else (none)) else (none)))) else (none)) else (none)) else (if ((rd_T32 x26 x28).f3) < x6 then (some false) else (if ((rd_T32 x26 x28).f3) > (wrap64 ((x0.size : Int) - (((rd_T32 x26 x28).f1).size : Int))) then (some false) else (if 0 ≤ ((rd_T32 x26 x28).f3) then (if ((rd_T32 x26 x28).f3) ≤ (wrap64 (((rd_T32 x26 x28).f3) + (((rd_T32 x26 x28).f1).size : Int))) then (if (wrap64 (((rd_T32 x26 x28).f3) + (((rd_T32 x26 x28).f1).size : Int))) ≤ (x0.size : Int) then (if (x0.extract (((rd_T32 x26 x28).f3) : Int).toNat ((wrap64 (((rd_T32 x26 x28).f3) + (((rd_T32 x26 x28).f1).size : Int))) : Int).toNat).toList = ((rd_T32 x26 x28).f1).toList then (if 0 ≤ x6 then (if x6 ≤ ((rd_T32 x26 x28).f3) then (if ((rd_T32 x26 x28).f3) ≤ (x0.size : Int) then ((whirligiglaw02_blank.f k (x0.extract (x6 : Int).toNat (((rd_T32 x26 x28).f3) : Int).toNat)).bind fun t245 => (if t245 = true then (whirligiglaw02_TokPlaces.l0 k x0 (wrap64 (((rd_T32 x26 x28).f3) + (((rd_T32 x26 x28).f1).size : Int))) x26 x27 (wrap64 (x28 + 1))) else (some false))) else (none)) else (none)) else (none)) else (some false)) else (none)) else (none)) else (none))))) else (none)) else (none)) else (if 0 ≤ x6 then (if x6 ≤ (x0.size : Int) then ((whirligiglaw02_blank.f k (x0.extract (x6 : Int).toNat x0.size)).bind fun t241 => (some t241)) else (none)) else (none))
def whirligiglaw02_TokPlaces.f (k : Nat) (a0 : ByteArray) : Option (Bool) := (whirligiglaw02_anchor.f k).bind fun t235 => (if t235 = true then (if (a0.size : Int) > 1000 then (some true) else ((tok_Lex.f k a0).bind fun bt236 => (if bt236.2.1 = 0 then (whirligiglaw02_TokPlaces.l0 k a0 0 bt236.1 (bt236.1.length : Int) 0) else (some ((bt236.1.length : Int) == 0))))) else (some false))
theorem whirligiglaw02_TokPlaces.mono_l : ∀ k, (∀ y0 y1 y2 y3 y4, LeO (whirligiglaw02_TokPlaces.l0 k y0 y1 y2 y3 y4) (whirligiglaw02_TokPlaces.l0 (k + 1) y0 y1 y2 y3 y4))
  | 0 => fun _ _ _ _ _ r h => by simp [whirligiglaw02_TokPlaces.l0] at h
  | k + 1 => by
    have ih0 := whirligiglaw02_TokPlaces.mono_l k
    · intro y0 y1 y2 y3 y4
      unfold whirligiglaw02_TokPlaces.l0
      repeat' first
      | (with_reducible exact ih0 _ _ _ _ _)
      | (with_reducible exact tok_Lex.mono _ _)
      | (with_reducible exact whirligiglaw02_anchor.mono _)
      | (with_reducible exact whirligiglaw02_blank.mono _ _)
      | (with_reducible exact LeO.refl _)
      | (with_reducible exact LeO.none _)
      | (with_reducible refine LeO.ite ?_ ?_)
      | (with_reducible refine LeO.bind ?_ (fun _ => ?_))
      | exact ih0 _ _ _ _ _
      | exact tok_Lex.mono _ _
      | exact whirligiglaw02_anchor.mono _
      | exact whirligiglaw02_blank.mono _ _
      | exact LeO.none _
      | refine LeO.ite ?_ ?_
      | refine LeO.bind ?_ (fun _ => ?_)
theorem whirligiglaw02_TokPlaces.mono : ∀ a0 k, LeO (whirligiglaw02_TokPlaces.f k a0) (whirligiglaw02_TokPlaces.f (k + 1) a0) := by
  intro a0 k
  have ih0 := whirligiglaw02_TokPlaces.mono_l k
  unfold whirligiglaw02_TokPlaces.f
  repeat' first
      | (with_reducible exact ih0 _ _ _ _ _)
      | (with_reducible exact tok_Lex.mono _ _)
      | (with_reducible exact whirligiglaw02_anchor.mono _)
      | (with_reducible exact whirligiglaw02_blank.mono _ _)
      | (with_reducible exact LeO.refl _)
      | (with_reducible exact LeO.none _)
      | (with_reducible refine LeO.ite ?_ ?_)
      | (with_reducible refine LeO.bind ?_ (fun _ => ?_))
      | exact ih0 _ _ _ _ _
      | exact tok_Lex.mono _ _
      | exact whirligiglaw02_anchor.mono _
      | exact whirligiglaw02_blank.mono _ _
      | exact LeO.none _
      | refine LeO.ite ?_ ?_
      | refine LeO.bind ?_ (fun _ => ?_)
set_option maxHeartbeats 8000000 in
set_option maxRecDepth 100000 in
theorem whirligiglaw02_TokPlaces.calls (k : Nat) (a0 : ByteArray) (r : Bool) (w : World) (hL : Laid w) (h : whirligiglaw02_TokPlaces.f k a0 = some r) :
    Calls Tryd.prog 4 #[.string a0] w fun e w' => e = .returned (.bool r) ∧ Below w.heap.size w w' := by
  have hu32 := Tryd.underlying32
  have HB := Aside0.mk (Below.refl w.heap.size w)
  have HLD := Aside0.mk hL
  clear hL
  have H : ((whirligiglaw02_anchor.f k).bind fun t235 => (if t235 = true then (if (a0.size : Int) > 1000 then (some true) else ((tok_Lex.f k a0).bind fun bt236 => (if bt236.2.1 = 0 then (whirligiglaw02_TokPlaces.l0 k a0 0 bt236.1 (bt236.1.length : Int) 0) else (some ((bt236.1.length : Int) == 0))))) else (some false))) = some r := h
  clear h
  replace H := Option.bind_eq_some_iff.mp H
  obtain ⟨t235, A20, H⟩ := H
  replace H : (if t235 = true then (if (a0.size : Int) > 1000 then (some true) else ((tok_Lex.f k a0).bind fun bt236 => (if bt236.2.1 = 0 then (whirligiglaw02_TokPlaces.l0 k a0 0 bt236.1 (bt236.1.length : Int) 0) else (some ((bt236.1.length : Int) == 0))))) else (some false)) = some r := H
  have A2 := Aside0.mk A20
  clear A20
  by_cases c3 : t235 = true
  · subst c3
    have H1 : (if (a0.size : Int) > 1000 then (some true) else ((tok_Lex.f k a0).bind fun bt236 => (if bt236.2.1 = 0 then (whirligiglaw02_TokPlaces.l0 k a0 0 bt236.1 (bt236.1.length : Int) 0) else (some ((bt236.1.length : Int) == 0))))) = some r := by rw [if_pos rfl] at H; exact H
    clear H
    have H := H1
    clear H1
    by_cases c4 : (a0.size : Int) > 1000
    · rw [if_pos c4] at H
      have c4b0 : decide (1000 < (a0.size : Int)) = true := decide_eq_true c4
      have c4b1 : decide (1000 < a0.size) = true := decide_eq_true (by omega)
      clear c4
      obtain rfl := Option.some.inj H
      go_enter Tryd.func4, Tryd.ntmps4
      go_wp2_with (first | ((with_reducible refine gate_callee (f := 19) rfl ?_); refine goesL_ (some 10) rfl rfl Tryd.func19 (by kernel_rfl) rfl #[] rfl (by (try simp only [List.map_toArray, List.map_cons, List.map_nil]); first | done | rfl | (simp only [List.length_drop, List.length_take]; rfl)) ?_; (with_reducible refine (whirligiglaw02_anchor.calls k  true _ ?side1 A2.out).mono ?_); (case side1 => exact Laid.below HLD.out (by repeat (first | (with_reducible first | exact HB.out | apply below_alloc | apply pw_below_drewN | apply below_drew1) | exact HB.out))); rintro e w5 ⟨rfl, hb⟩; refine ⟨_, rfl, ?_⟩; have n0_ := Aside0.mk (below_step (by repeat (first | (with_reducible first | exact HB.out | apply below_alloc | apply pw_below_drewN | apply below_drew1) | exact HB.out)) hb); clear HB; have HB := n0_; clear n0_; (try clear hb); (try clear hb2); (try clear hk); (try clear hi)))
      go_ret
      exact ⟨by first | rfl | (simp [errW_none, errW_some] <;> rfl) | (simp [*, errW_none, errW_some] <;> rfl), by repeat (first | (with_reducible first | exact HB.out | apply below_alloc | apply pw_below_drewN | apply below_drew1) | exact HB.out)⟩
    · rw [if_neg c4] at H
      have c4b0 : decide (1000 < (a0.size : Int)) = false := decide_eq_false c4
      have c4b1 : decide (1000 < a0.size) = false := decide_eq_false (by omega)
      clear c4
      replace H := Option.bind_eq_some_iff.mp H
      obtain ⟨⟨t236, t237, t238⟩, A60, H⟩ := H
      replace H : (if t237 = 0 then (whirligiglaw02_TokPlaces.l0 k a0 0 t236 (t236.length : Int) 0) else (some ((t236.length : Int) == 0))) = some r := H
      have A6 := Aside0.mk A60
      clear A60
      by_cases c7 : t237 = 0
      · rw [if_pos c7] at H
        have c7b0 : (t237 == 0) = true := beq_iff_eq.mpr c7
        have c7b1 : (t237 != 0) = false := bne_eq_false_iff_eq.mpr c7
        clear c7
        have H' := Aside0.mk H
        clear H
        go_enter Tryd.func4, Tryd.ntmps4
        go_wp2_with (first | ((with_reducible refine gate_callee (f := 19) rfl ?_); refine goesL_ (some 10) rfl rfl Tryd.func19 (by kernel_rfl) rfl #[] rfl (by (try simp only [List.map_toArray, List.map_cons, List.map_nil]); first | done | rfl | (simp only [List.length_drop, List.length_take]; rfl)) ?_; (with_reducible refine (whirligiglaw02_anchor.calls k  true _ ?side1 A2.out).mono ?_); (case side1 => exact Laid.below HLD.out (by repeat (first | (with_reducible first | exact HB.out | apply below_alloc | apply pw_below_drewN | apply below_drew1) | exact HB.out))); rintro e w8 ⟨rfl, hb⟩; refine ⟨_, rfl, ?_⟩; have n0_ := Aside0.mk (below_step (by repeat (first | (with_reducible first | exact HB.out | apply below_alloc | apply pw_below_drewN | apply below_drew1) | exact HB.out)) hb); clear HB; have HB := n0_; clear n0_; (try clear hb); (try clear hb2); (try clear hk); (try clear hi)) | ((with_reducible refine gate_callee (f := 20) rfl ?_); refine goesL_ (some 17) rfl rfl Tryd.func20 (by kernel_rfl) rfl #[.string a0] rfl (by (try simp only [List.map_toArray, List.map_cons, List.map_nil]); first | done | rfl | (simp only [List.length_drop, List.length_take]; rfl)) ?_; (with_reducible refine (tok_Lex.calls k a0 t236 t237 t238 _ ?side1 A6.out).mono ?_); (case side1 => exact Laid.below HLD.out (by repeat (first | (with_reducible first | exact HB.out | apply below_alloc | apply pw_below_drewN | apply below_drew1) | exact HB.out))); rintro e w9 ⟨v239, rfl, ho0, hb⟩; refine ⟨_, rfl, ?_⟩; have n0_ := Aside0.mk (Kd.R_lower ho0 (below_size (by repeat (first | (with_reducible first | exact HB.out | apply below_alloc | apply pw_below_drewN | apply below_drew1) | exact HB.out)))); have n1_ := Aside0.mk (below_step (by repeat (first | (with_reducible first | exact HB.out | apply below_alloc | apply pw_below_drewN | apply below_drew1) | exact HB.out)) hb); clear HB; have HO240 := n0_; have HB := n1_; clear n0_ n1_; (try clear hb); (try clear hb2); (try clear hk); (try clear hi); (try clear ho0); obtain ⟨Ao10, co10, eo10⟩ := Kd.R_slice HO240.out; subst eo10))
        go_loopg [6, 28] k (fun kq v6 v28 w' => ∃ (x6_1 : Int) (x28_1 : Int), v6 = .int .i64 x6_1 ∧ v28 = .int .i64 x28_1 ∧ Aside0 (whirligiglaw02_TokPlaces.l0 kq a0 x6_1 t236 (t236.length : Int) x28_1 = some r) ∧ Aside0 (kq ≤ k) ∧ Aside0 (Kd.R k32 32 w' w.heap.size (fun _ => True) (.slice Ao10 t236.length co10) t236) ∧ Aside0 (Below w.heap.size w w'))
        case atStart => exact ⟨(0), (0), (by first | rfl | (simp; done) | (simp [*]; done)), (by first | rfl | (simp; done) | (simp [*]; done)), H', ⟨Nat.le_refl _⟩, ⟨by (with_reducible repeat (first | apply Kd.R_alloc | apply Kd.R_drewN | apply Kd.R_drew)); exact HO240.out⟩, ⟨by repeat (first | (with_reducible first | exact HB.out | apply below_alloc | apply pw_below_drewN | apply below_drew1) | exact HB.out)⟩⟩
        case round =>
          clear H'
          try clear c1
          try clear c2
          try clear p2
          try clear c3
          try clear c4
          try clear c4b0
          try clear c4b1
          try clear c7
          try clear c7b0
          try clear c7b1
          obtain ⟨x6_1, x28_1, rfl, rfl, HA, HK1, HO_26, HB⟩ := hrel
          cases gk with
          | zero => exact absurd HA.out (by simp [whirligiglaw02_TokPlaces.l0])
          | succ k1 =>
            have H := HA.out
            clear HA
            simp only [whirligiglaw02_TokPlaces.l0] at H
            by_cases c11 : x28_1 < (t236.length : Int)
            · rw [if_pos c11] at H
              have c11b0 : decide (x28_1 < (t236.length : Int)) = true := decide_eq_true c11
              clear c11
              by_cases c12 : 0 ≤ x28_1
              · rw [if_pos c12] at H
                have c12b0 : decide (0 ≤ x28_1) = true := decide_eq_true c12
                clear c12
                by_cases c13 : x28_1 < (t236.length : Int)
                · rw [if_pos c13] at H
                  have c13b0 : decide (x28_1 < (t236.length : Int)) = true := decide_eq_true c13
                  clear c13
                  by_cases c14 : ((rd_T32 t236 x28_1).f0) = 4
                  · rw [if_pos c14] at H
                    have c14b0 : (((rd_T32 t236 x28_1).f0) == 4) = true := beq_iff_eq.mpr c14
                    have c14b1 : (((rd_T32 t236 x28_1).f0) != 4) = false := bne_eq_false_iff_eq.mpr c14
                    clear c14
                    by_cases c15 : 1 + ((rd_T32 t236 x28_1).f1).size ≤ 9223372036854775807
                    · rw [if_pos c15] at H
                      have c15b0 := eq_true c15
                      have c15b1 : decide (1 + ((rd_T32 t236 x28_1).f1).size ≤ 9223372036854775807) = true := decide_eq_true c15
                      try have c15b2 : (9223372036854775807 < 1 + ((rd_T32 t236 x28_1).f1).size) = False := eq_false (Nat.not_lt.2 c15)
                      by_cases c16 : (1 + ((rd_T32 t236 x28_1).f1).size) + 1 ≤ 9223372036854775807
                      · rw [if_pos c16] at H
                        have c16b0 := eq_true c16
                        have c16b1 : decide ((1 + ((rd_T32 t236 x28_1).f1).size) + 1 ≤ 9223372036854775807) = true := decide_eq_true c16
                        try have c16b2 : (9223372036854775807 < (1 + ((rd_T32 t236 x28_1).f1).size) + 1) = False := eq_false (Nat.not_lt.2 c16)
                        by_cases c17 : ((rd_T32 t236 x28_1).f3) < x6_1
                        · rw [if_pos c17] at H
                          have c17b0 : decide (((rd_T32 t236 x28_1).f3) < x6_1) = true := decide_eq_true c17
                          clear c17
                          obtain rfl := Option.some.inj H
                          have p242 : 0 ≤ (x28_1 : Int) := of_decide_eq_true (by first | (with_reducible assumption) | assumption)
                          have q242 : x28_1 < (t236.length : Int) := of_decide_eq_true (by first | (with_reducible assumption) | assumption)
                          obtain ⟨ad242, e242, hx242_0, hx242_1, hx242_2, hx242_3⟩ := at_T32 (Kd.R_reads' HO_26.out).2.2 x28_1 p242 q242
                          cases e242
                          replace p242 := eq_true p242
                          replace q242 := eq_true q242
                          go_wp2_with (first | ((with_reducible refine gate_dst (N := 8) rfl ?_); (try (refine gate_guard (by rfl) ?_; dsimp only)); refine box_event ?hg (N := 8) ?hd (cs := #[.int .i64 0, .string (⟨#[]⟩ : ByteArray), .int .i64 0, .int .i64 0]) (t := 32) ?hr ?_; (case hd => rfl); (case hg => rfl); (case hr => first | (go_simp; done) | (go_simp; rfl)); intro gb243 hg w18 hbox hb; have n0_ := Aside0.mk (Kd.R_below (Kd.R_elderB (by (with_reducible repeat (first | apply Kd.R_alloc | apply Kd.R_drewN | apply Kd.R_drew)); exact HO_26.out) gb243 (Nat.le_of_eq hg.symm)) hb); have n1_ := Aside0.mk (below_step (by repeat (first | (with_reducible first | exact HB.out | apply below_alloc | apply pw_below_drewN | apply below_drew1) | exact HB.out)) hb); have n2_ := Aside0.mk (hbox); have n3_ := Aside0.mk ((by rw [hg]; exact (below_size (by repeat (first | (with_reducible first | exact HB.out | apply below_alloc | apply pw_below_drewN | apply below_drew1) | exact HB.out))) : w.heap.size ≤ gb243)); have n4_ := Aside0.mk ((by rw [hg]; exact (below_size (by repeat (first | (with_reducible first | exact HB.out | apply below_alloc | apply pw_below_drewN | apply below_drew1) | exact HB.out))) : w.heap.size ≤ gb243)); clear HO_26; clear HB; have HO_26 := n0_; have HB := n1_; have BK243 := n2_; have GW243 := n3_; have GE243 := n4_; clear n0_ n1_ n2_ n3_ n4_; clear hb hbox hg; have hcz19_0 : w18.cell? ⟨gb243, 0, none⟩ = some (.int .i64 0) := (blk_cell BK243.out 0).trans rfl; have hcz19_1 : w18.cell? ⟨gb243, 1, none⟩ = some (.string (⟨#[]⟩ : ByteArray)) := (blk_cell BK243.out 1).trans rfl; have hcz19_2 : w18.cell? ⟨gb243, 2, none⟩ = some (.int .i64 0) := (blk_cell BK243.out 2).trans rfl; have hcz19_3 : w18.cell? ⟨gb243, 3, none⟩ = some (.int .i64 0) := (blk_cell BK243.out 3).trans rfl; have hfz19_0 := blk_frozen BK243.out 0; have hfz19_1 := blk_frozen BK243.out 1; have hfz19_2 := blk_frozen BK243.out 2; have hfz19_3 := blk_frozen BK243.out 3))
                          go_ret
                          exact ⟨by first | rfl | (simp [errW_none, errW_some] <;> rfl) | (simp [*, errW_none, errW_some] <;> rfl), by repeat (first | (with_reducible first | exact HB.out | apply below_alloc | apply pw_below_drewN | apply below_drew1 | refine below_set ?_ GE243.out) | exact HB.out)⟩
                        · rw [if_neg c17] at H
                          have c17b0 : decide (((rd_T32 t236 x28_1).f3) < x6_1) = false := decide_eq_false c17
                          clear c17
                          by_cases c20 : ((rd_T32 t236 x28_1).f3) > (wrap64 ((a0.size : Int) - (1 + (((rd_T32 t236 x28_1).f1).size : Int) + 1)))
                          · rw [if_pos c20] at H
                            have c20b0 : decide ((wrap64 ((a0.size : Int) - (1 + (((rd_T32 t236 x28_1).f1).size : Int) + 1))) < ((rd_T32 t236 x28_1).f3)) = true := decide_eq_true c20
                            clear c20
                            obtain rfl := Option.some.inj H
                            have p242 : 0 ≤ (x28_1 : Int) := of_decide_eq_true (by first | (with_reducible assumption) | assumption)
                            have q242 : x28_1 < (t236.length : Int) := of_decide_eq_true (by first | (with_reducible assumption) | assumption)
                            obtain ⟨ad242, e242, hx242_0, hx242_1, hx242_2, hx242_3⟩ := at_T32 (Kd.R_reads' HO_26.out).2.2 x28_1 p242 q242
                            cases e242
                            replace p242 := eq_true p242
                            replace q242 := eq_true q242
                            go_wp2_with (first | ((with_reducible refine gate_dst (N := 8) rfl ?_); (try (refine gate_guard (by rfl) ?_; dsimp only)); refine box_event ?hg (N := 8) ?hd (cs := #[.int .i64 0, .string (⟨#[]⟩ : ByteArray), .int .i64 0, .int .i64 0]) (t := 32) ?hr ?_; (case hd => rfl); (case hg => rfl); (case hr => first | (go_simp; done) | (go_simp; rfl)); intro gb243 hg w21 hbox hb; have n0_ := Aside0.mk (Kd.R_below (Kd.R_elderB (by (with_reducible repeat (first | apply Kd.R_alloc | apply Kd.R_drewN | apply Kd.R_drew)); exact HO_26.out) gb243 (Nat.le_of_eq hg.symm)) hb); have n1_ := Aside0.mk (below_step (by repeat (first | (with_reducible first | exact HB.out | apply below_alloc | apply pw_below_drewN | apply below_drew1) | exact HB.out)) hb); have n2_ := Aside0.mk (hbox); have n3_ := Aside0.mk ((by rw [hg]; exact (below_size (by repeat (first | (with_reducible first | exact HB.out | apply below_alloc | apply pw_below_drewN | apply below_drew1) | exact HB.out))) : w.heap.size ≤ gb243)); have n4_ := Aside0.mk ((by rw [hg]; exact (below_size (by repeat (first | (with_reducible first | exact HB.out | apply below_alloc | apply pw_below_drewN | apply below_drew1) | exact HB.out))) : w.heap.size ≤ gb243)); clear HO_26; clear HB; have HO_26 := n0_; have HB := n1_; have BK243 := n2_; have GW243 := n3_; have GE243 := n4_; clear n0_ n1_ n2_ n3_ n4_; clear hb hbox hg; have hcz22_0 : w21.cell? ⟨gb243, 0, none⟩ = some (.int .i64 0) := (blk_cell BK243.out 0).trans rfl; have hcz22_1 : w21.cell? ⟨gb243, 1, none⟩ = some (.string (⟨#[]⟩ : ByteArray)) := (blk_cell BK243.out 1).trans rfl; have hcz22_2 : w21.cell? ⟨gb243, 2, none⟩ = some (.int .i64 0) := (blk_cell BK243.out 2).trans rfl; have hcz22_3 : w21.cell? ⟨gb243, 3, none⟩ = some (.int .i64 0) := (blk_cell BK243.out 3).trans rfl; have hfz22_0 := blk_frozen BK243.out 0; have hfz22_1 := blk_frozen BK243.out 1; have hfz22_2 := blk_frozen BK243.out 2; have hfz22_3 := blk_frozen BK243.out 3))
                            go_ret
                            exact ⟨by first | rfl | (simp [errW_none, errW_some] <;> rfl) | (simp [*, errW_none, errW_some] <;> rfl), by repeat (first | (with_reducible first | exact HB.out | apply below_alloc | apply pw_below_drewN | apply below_drew1 | refine below_set ?_ GE243.out) | exact HB.out)⟩
                          · rw [if_neg c20] at H
                            have c20b0 : decide ((wrap64 ((a0.size : Int) - (1 + (((rd_T32 t236 x28_1).f1).size : Int) + 1))) < ((rd_T32 t236 x28_1).f3)) = false := decide_eq_false c20
                            clear c20
                            by_cases c23 : 0 ≤ ((rd_T32 t236 x28_1).f3)
                            · rw [if_pos c23] at H
                              have c23b0 := eq_true c23
                              have c23b1 : decide (0 ≤ ((rd_T32 t236 x28_1).f3)) = true := decide_eq_true c23
                              clear c23
                              by_cases c24 : ((rd_T32 t236 x28_1).f3) ≤ (wrap64 (((rd_T32 t236 x28_1).f3) + (1 + (((rd_T32 t236 x28_1).f1).size : Int) + 1)))
                              · rw [if_pos c24] at H
                                have c24b0 := eq_true c24
                                have c24b1 : decide (((rd_T32 t236 x28_1).f3) ≤ (wrap64 (((rd_T32 t236 x28_1).f3) + (1 + (((rd_T32 t236 x28_1).f1).size : Int) + 1)))) = true := decide_eq_true c24
                                by_cases c25 : (wrap64 (((rd_T32 t236 x28_1).f3) + (1 + (((rd_T32 t236 x28_1).f1).size : Int) + 1))) ≤ (a0.size : Int)
                                · rw [if_pos c25] at H
                                  have c25b0 := eq_true c25
                                  have c25b1 : decide ((wrap64 (((rd_T32 t236 x28_1).f3) + (1 + (((rd_T32 t236 x28_1).f1).size : Int) + 1))) ≤ (a0.size : Int)) = true := decide_eq_true c25
                                  by_cases c26 : (a0.extract (((rd_T32 t236 x28_1).f3) : Int).toNat ((wrap64 (((rd_T32 t236 x28_1).f3) + (1 + (((rd_T32 t236 x28_1).f1).size : Int) + 1))) : Int).toNat).toList = (((⟨#[39]⟩ : ByteArray) ++ ((rd_T32 t236 x28_1).f1)) ++ (⟨#[39]⟩ : ByteArray)).toList
                                  · rw [if_pos c26] at H
                                    have c26b0 : ((a0.extract (((rd_T32 t236 x28_1).f3) : Int).toNat ((wrap64 (((rd_T32 t236 x28_1).f3) + (1 + (((rd_T32 t236 x28_1).f1).size : Int) + 1))) : Int).toNat).toList == (((⟨#[39]⟩ : ByteArray) ++ ((rd_T32 t236 x28_1).f1)) ++ (⟨#[39]⟩ : ByteArray)).toList) = true := beq_iff_eq.mpr c26
                                    have c26b1 : ((a0.extract (((rd_T32 t236 x28_1).f3) : Int).toNat ((wrap64 (((rd_T32 t236 x28_1).f3) + (1 + (((rd_T32 t236 x28_1).f1).size : Int) + 1))) : Int).toNat).toList != (((⟨#[39]⟩ : ByteArray) ++ ((rd_T32 t236 x28_1).f1)) ++ (⟨#[39]⟩ : ByteArray)).toList) = false := bne_eq_false_iff_eq.mpr c26
                                    clear c26
                                    by_cases c27 : 0 ≤ x6_1
                                    · rw [if_pos c27] at H
                                      have c27b0 := eq_true c27
                                      have c27b1 : decide (0 ≤ x6_1) = true := decide_eq_true c27
                                      clear c27
                                      by_cases c28 : x6_1 ≤ ((rd_T32 t236 x28_1).f3)
                                      · rw [if_pos c28] at H
                                        have c28b0 := eq_true c28
                                        have c28b1 : decide (x6_1 ≤ ((rd_T32 t236 x28_1).f3)) = true := decide_eq_true c28
                                        clear c28
                                        by_cases c29 : ((rd_T32 t236 x28_1).f3) ≤ (a0.size : Int)
                                        · rw [if_pos c29] at H
                                          have c29b0 := eq_true c29
                                          have c29b1 : decide (((rd_T32 t236 x28_1).f3) ≤ (a0.size : Int)) = true := decide_eq_true c29
                                          clear c29
                                          replace H := Option.bind_eq_some_iff.mp H
                                          obtain ⟨t244, A300, H⟩ := H
                                          replace H : (if t244 = true then (whirligiglaw02_TokPlaces.l0 k1 a0 (wrap64 (((rd_T32 t236 x28_1).f3) + (1 + (((rd_T32 t236 x28_1).f1).size : Int) + 1))) t236 (t236.length : Int) (wrap64 (x28_1 + 1))) else (some false)) = some r := H
                                          have A30 := Aside0.mk A300
                                          clear A300
                                          by_cases c31 : t244 = true
                                          · subst c31
                                            have H1 : (whirligiglaw02_TokPlaces.l0 k1 a0 (wrap64 (((rd_T32 t236 x28_1).f3) + (1 + (((rd_T32 t236 x28_1).f1).size : Int) + 1))) t236 (t236.length : Int) (wrap64 (x28_1 + 1))) = some r := by rw [if_pos rfl] at H; exact H
                                            clear H
                                            have H := H1
                                            clear H1
                                            have H' := Aside0.mk H
                                            clear H
                                            have p242 : 0 ≤ (x28_1 : Int) := of_decide_eq_true (by first | (with_reducible assumption) | assumption)
                                            have q242 : x28_1 < (t236.length : Int) := of_decide_eq_true (by first | (with_reducible assumption) | assumption)
                                            obtain ⟨ad242, e242, hx242_0, hx242_1, hx242_2, hx242_3⟩ := at_T32 (Kd.R_reads' HO_26.out).2.2 x28_1 p242 q242
                                            cases e242
                                            replace p242 := eq_true p242
                                            replace q242 := eq_true q242
                                            go_wp2_with (first | ((with_reducible refine gate_dst (N := 8) rfl ?_); (try (refine gate_guard (by rfl) ?_; dsimp only)); refine box_event ?hg (N := 8) ?hd (cs := #[.int .i64 0, .string (⟨#[]⟩ : ByteArray), .int .i64 0, .int .i64 0]) (t := 32) ?hr ?_; (case hd => rfl); (case hg => rfl); (case hr => first | (go_simp; done) | (go_simp; rfl)); intro gb243 hg w32 hbox hb; have n0_ := Aside0.mk (Kd.R_below (Kd.R_elderB (by (with_reducible repeat (first | apply Kd.R_alloc | apply Kd.R_drewN | apply Kd.R_drew)); exact HO_26.out) gb243 (Nat.le_of_eq hg.symm)) hb); have n1_ := Aside0.mk (below_step (by repeat (first | (with_reducible first | exact HB.out | apply below_alloc | apply pw_below_drewN | apply below_drew1) | exact HB.out)) hb); have n2_ := Aside0.mk (hbox); have n3_ := Aside0.mk ((by rw [hg]; exact (below_size (by repeat (first | (with_reducible first | exact HB.out | apply below_alloc | apply pw_below_drewN | apply below_drew1) | exact HB.out))) : w.heap.size ≤ gb243)); have n4_ := Aside0.mk ((by rw [hg]; exact (below_size (by repeat (first | (with_reducible first | exact HB.out | apply below_alloc | apply pw_below_drewN | apply below_drew1) | exact HB.out))) : w.heap.size ≤ gb243)); clear HO_26; clear HB; have HO_26 := n0_; have HB := n1_; have BK243 := n2_; have GW243 := n3_; have GE243 := n4_; clear n0_ n1_ n2_ n3_ n4_; clear hb hbox hg; have hcz33_0 : w32.cell? ⟨gb243, 0, none⟩ = some (.int .i64 0) := (blk_cell BK243.out 0).trans rfl; have hcz33_1 : w32.cell? ⟨gb243, 1, none⟩ = some (.string (⟨#[]⟩ : ByteArray)) := (blk_cell BK243.out 1).trans rfl; have hcz33_2 : w32.cell? ⟨gb243, 2, none⟩ = some (.int .i64 0) := (blk_cell BK243.out 2).trans rfl; have hcz33_3 : w32.cell? ⟨gb243, 3, none⟩ = some (.int .i64 0) := (blk_cell BK243.out 3).trans rfl; have hfz33_0 := blk_frozen BK243.out 0; have hfz33_1 := blk_frozen BK243.out 1; have hfz33_2 := blk_frozen BK243.out 2; have hfz33_3 := blk_frozen BK243.out 3) | (go_at_call 22; (with_reducible refine (whirligiglaw02_blank.calls k1 (a0.extract (x6_1 : Int).toNat (((rd_T32 t236 x28_1).f3) : Int).toNat) true _ A30.out).mono ?_); rintro e w' ⟨rfl, ⟨nd, rfl⟩⟩))
                                            go_roundg k1
                                            case measure => have := HK1.out; omega
                                            case rel => exact ⟨(wrap64 (((rd_T32 t236 x28_1).f3) + (1 + (((rd_T32 t236 x28_1).f1).size : Int) + 1))), (wrap64 (x28_1 + 1)), (by first | rfl | (simp; done) | (simp [*]; done)), (by first | rfl | (simp; done) | (simp [*]; done)), H', ⟨by have := HK1.out; omega⟩, ⟨by (with_reducible repeat (first | apply Kd.R_alloc | apply Kd.R_drewN | apply Kd.R_drew)); exact Kd.R_mono (Kd.R_far (p := ⟨gb243, 3, none⟩) (Kd.R_far (p := ⟨gb243, 2, none⟩) (Kd.R_far (p := ⟨gb243, 1, none⟩) (Kd.R_far (p := ⟨gb243, 0, none⟩) (Kd.R_mono HO_26.out (fun k_ hk => (⟨hk, hk.2⟩ : _ ∧ k_ ≠ gb243))) (fun _ hk => hk.2) (.int .i64 ((rd_T32 t236 x28_1).f0))) (fun _ hk => hk.2) (.string ((rd_T32 t236 x28_1).f1))) (fun _ hk => hk.2) (.int .i64 ((rd_T32 t236 x28_1).f2))) (fun _ hk => hk.2) (.int .i64 ((rd_T32 t236 x28_1).f3))) (fun _ hk => trivial)⟩, ⟨by repeat (first | (with_reducible first | exact HB.out | apply below_alloc | apply pw_below_drewN | apply below_drew1 | refine below_set ?_ GE243.out) | exact HB.out)⟩⟩
                                          · replace c31 := Bool.eq_false_iff.mpr c31
                                            subst c31
                                            have H1 : (some false) = some r := by rw [if_neg (show ¬ (false = true) by decide)] at H; exact H
                                            clear H
                                            have H := H1
                                            clear H1
                                            obtain rfl := Option.some.inj H
                                            have p242 : 0 ≤ (x28_1 : Int) := of_decide_eq_true (by first | (with_reducible assumption) | assumption)
                                            have q242 : x28_1 < (t236.length : Int) := of_decide_eq_true (by first | (with_reducible assumption) | assumption)
                                            obtain ⟨ad242, e242, hx242_0, hx242_1, hx242_2, hx242_3⟩ := at_T32 (Kd.R_reads' HO_26.out).2.2 x28_1 p242 q242
                                            cases e242
                                            replace p242 := eq_true p242
                                            replace q242 := eq_true q242
                                            go_wp2_with (first | ((with_reducible refine gate_dst (N := 8) rfl ?_); (try (refine gate_guard (by rfl) ?_; dsimp only)); refine box_event ?hg (N := 8) ?hd (cs := #[.int .i64 0, .string (⟨#[]⟩ : ByteArray), .int .i64 0, .int .i64 0]) (t := 32) ?hr ?_; (case hd => rfl); (case hg => rfl); (case hr => first | (go_simp; done) | (go_simp; rfl)); intro gb243 hg w34 hbox hb; have n0_ := Aside0.mk (Kd.R_below (Kd.R_elderB (by (with_reducible repeat (first | apply Kd.R_alloc | apply Kd.R_drewN | apply Kd.R_drew)); exact HO_26.out) gb243 (Nat.le_of_eq hg.symm)) hb); have n1_ := Aside0.mk (below_step (by repeat (first | (with_reducible first | exact HB.out | apply below_alloc | apply pw_below_drewN | apply below_drew1) | exact HB.out)) hb); have n2_ := Aside0.mk (hbox); have n3_ := Aside0.mk ((by rw [hg]; exact (below_size (by repeat (first | (with_reducible first | exact HB.out | apply below_alloc | apply pw_below_drewN | apply below_drew1) | exact HB.out))) : w.heap.size ≤ gb243)); have n4_ := Aside0.mk ((by rw [hg]; exact (below_size (by repeat (first | (with_reducible first | exact HB.out | apply below_alloc | apply pw_below_drewN | apply below_drew1) | exact HB.out))) : w.heap.size ≤ gb243)); clear HO_26; clear HB; have HO_26 := n0_; have HB := n1_; have BK243 := n2_; have GW243 := n3_; have GE243 := n4_; clear n0_ n1_ n2_ n3_ n4_; clear hb hbox hg; have hcz35_0 : w34.cell? ⟨gb243, 0, none⟩ = some (.int .i64 0) := (blk_cell BK243.out 0).trans rfl; have hcz35_1 : w34.cell? ⟨gb243, 1, none⟩ = some (.string (⟨#[]⟩ : ByteArray)) := (blk_cell BK243.out 1).trans rfl; have hcz35_2 : w34.cell? ⟨gb243, 2, none⟩ = some (.int .i64 0) := (blk_cell BK243.out 2).trans rfl; have hcz35_3 : w34.cell? ⟨gb243, 3, none⟩ = some (.int .i64 0) := (blk_cell BK243.out 3).trans rfl; have hfz35_0 := blk_frozen BK243.out 0; have hfz35_1 := blk_frozen BK243.out 1; have hfz35_2 := blk_frozen BK243.out 2; have hfz35_3 := blk_frozen BK243.out 3) | (go_at_call 22; (with_reducible refine (whirligiglaw02_blank.calls k1 (a0.extract (x6_1 : Int).toNat (((rd_T32 t236 x28_1).f3) : Int).toNat) false _ A30.out).mono ?_); rintro e w' ⟨rfl, ⟨nd, rfl⟩⟩))
                                            go_ret
                                            exact ⟨by first | rfl | (simp [errW_none, errW_some] <;> rfl) | (simp [*, errW_none, errW_some] <;> rfl), by repeat (first | (with_reducible first | exact HB.out | apply below_alloc | apply pw_below_drewN | apply below_drew1 | refine below_set ?_ GE243.out) | exact HB.out)⟩
                                        · rw [if_neg c29] at H
                                          exact absurd H (by simp)
                                      · rw [if_neg c28] at H
                                        exact absurd H (by simp)
                                    · rw [if_neg c27] at H
                                      exact absurd H (by simp)
                                  · rw [if_neg c26] at H
                                    have c26b0 : ((a0.extract (((rd_T32 t236 x28_1).f3) : Int).toNat ((wrap64 (((rd_T32 t236 x28_1).f3) + (1 + (((rd_T32 t236 x28_1).f1).size : Int) + 1))) : Int).toNat).toList == (((⟨#[39]⟩ : ByteArray) ++ ((rd_T32 t236 x28_1).f1)) ++ (⟨#[39]⟩ : ByteArray)).toList) = false := beq_eq_false_iff_ne.mpr c26
                                    have c26b1 : ((a0.extract (((rd_T32 t236 x28_1).f3) : Int).toNat ((wrap64 (((rd_T32 t236 x28_1).f3) + (1 + (((rd_T32 t236 x28_1).f1).size : Int) + 1))) : Int).toNat).toList != (((⟨#[39]⟩ : ByteArray) ++ ((rd_T32 t236 x28_1).f1)) ++ (⟨#[39]⟩ : ByteArray)).toList) = true := bne_iff_ne.mpr c26
                                    obtain rfl := Option.some.inj H
                                    have p242 : 0 ≤ (x28_1 : Int) := of_decide_eq_true (by first | (with_reducible assumption) | assumption)
                                    have q242 : x28_1 < (t236.length : Int) := of_decide_eq_true (by first | (with_reducible assumption) | assumption)
                                    obtain ⟨ad242, e242, hx242_0, hx242_1, hx242_2, hx242_3⟩ := at_T32 (Kd.R_reads' HO_26.out).2.2 x28_1 p242 q242
                                    cases e242
                                    replace p242 := eq_true p242
                                    replace q242 := eq_true q242
                                    go_wp2_with (first | ((with_reducible refine gate_dst (N := 8) rfl ?_); (try (refine gate_guard (by rfl) ?_; dsimp only)); refine box_event ?hg (N := 8) ?hd (cs := #[.int .i64 0, .string (⟨#[]⟩ : ByteArray), .int .i64 0, .int .i64 0]) (t := 32) ?hr ?_; (case hd => rfl); (case hg => rfl); (case hr => first | (go_simp; done) | (go_simp; rfl)); intro gb243 hg w36 hbox hb; have n0_ := Aside0.mk (Kd.R_below (Kd.R_elderB (by (with_reducible repeat (first | apply Kd.R_alloc | apply Kd.R_drewN | apply Kd.R_drew)); exact HO_26.out) gb243 (Nat.le_of_eq hg.symm)) hb); have n1_ := Aside0.mk (below_step (by repeat (first | (with_reducible first | exact HB.out | apply below_alloc | apply pw_below_drewN | apply below_drew1) | exact HB.out)) hb); have n2_ := Aside0.mk (hbox); have n3_ := Aside0.mk ((by rw [hg]; exact (below_size (by repeat (first | (with_reducible first | exact HB.out | apply below_alloc | apply pw_below_drewN | apply below_drew1) | exact HB.out))) : w.heap.size ≤ gb243)); have n4_ := Aside0.mk ((by rw [hg]; exact (below_size (by repeat (first | (with_reducible first | exact HB.out | apply below_alloc | apply pw_below_drewN | apply below_drew1) | exact HB.out))) : w.heap.size ≤ gb243)); clear HO_26; clear HB; have HO_26 := n0_; have HB := n1_; have BK243 := n2_; have GW243 := n3_; have GE243 := n4_; clear n0_ n1_ n2_ n3_ n4_; clear hb hbox hg; have hcz37_0 : w36.cell? ⟨gb243, 0, none⟩ = some (.int .i64 0) := (blk_cell BK243.out 0).trans rfl; have hcz37_1 : w36.cell? ⟨gb243, 1, none⟩ = some (.string (⟨#[]⟩ : ByteArray)) := (blk_cell BK243.out 1).trans rfl; have hcz37_2 : w36.cell? ⟨gb243, 2, none⟩ = some (.int .i64 0) := (blk_cell BK243.out 2).trans rfl; have hcz37_3 : w36.cell? ⟨gb243, 3, none⟩ = some (.int .i64 0) := (blk_cell BK243.out 3).trans rfl; have hfz37_0 := blk_frozen BK243.out 0; have hfz37_1 := blk_frozen BK243.out 1; have hfz37_2 := blk_frozen BK243.out 2; have hfz37_3 := blk_frozen BK243.out 3))
                                    go_ret
                                    exact ⟨by first | rfl | (simp [errW_none, errW_some] <;> rfl) | (simp [*, errW_none, errW_some] <;> rfl), by repeat (first | (with_reducible first | exact HB.out | apply below_alloc | apply pw_below_drewN | apply below_drew1 | refine below_set ?_ GE243.out) | exact HB.out)⟩
                                · rw [if_neg c25] at H
                                  exact absurd H (by simp)
                              · rw [if_neg c24] at H
                                exact absurd H (by simp)
                            · rw [if_neg c23] at H
                              exact absurd H (by simp)
                      · rw [if_neg c16] at H
                        exact absurd H (by simp)
                    · rw [if_neg c15] at H
                      exact absurd H (by simp)
                  · rw [if_neg c14] at H
                    have c14b0 : (((rd_T32 t236 x28_1).f0) == 4) = false := beq_eq_false_iff_ne.mpr c14
                    have c14b1 : (((rd_T32 t236 x28_1).f0) != 4) = true := bne_iff_ne.mpr c14
                    by_cases c38 : ((rd_T32 t236 x28_1).f3) < x6_1
                    · rw [if_pos c38] at H
                      have c38b0 : decide (((rd_T32 t236 x28_1).f3) < x6_1) = true := decide_eq_true c38
                      clear c38
                      obtain rfl := Option.some.inj H
                      have p242 : 0 ≤ (x28_1 : Int) := of_decide_eq_true (by first | (with_reducible assumption) | assumption)
                      have q242 : x28_1 < (t236.length : Int) := of_decide_eq_true (by first | (with_reducible assumption) | assumption)
                      obtain ⟨ad242, e242, hx242_0, hx242_1, hx242_2, hx242_3⟩ := at_T32 (Kd.R_reads' HO_26.out).2.2 x28_1 p242 q242
                      cases e242
                      replace p242 := eq_true p242
                      replace q242 := eq_true q242
                      go_wp2_with (first | ((with_reducible refine gate_dst (N := 8) rfl ?_); (try (refine gate_guard (by rfl) ?_; dsimp only)); refine box_event ?hg (N := 8) ?hd (cs := #[.int .i64 0, .string (⟨#[]⟩ : ByteArray), .int .i64 0, .int .i64 0]) (t := 32) ?hr ?_; (case hd => rfl); (case hg => rfl); (case hr => first | (go_simp; done) | (go_simp; rfl)); intro gb243 hg w39 hbox hb; have n0_ := Aside0.mk (Kd.R_below (Kd.R_elderB (by (with_reducible repeat (first | apply Kd.R_alloc | apply Kd.R_drewN | apply Kd.R_drew)); exact HO_26.out) gb243 (Nat.le_of_eq hg.symm)) hb); have n1_ := Aside0.mk (below_step (by repeat (first | (with_reducible first | exact HB.out | apply below_alloc | apply pw_below_drewN | apply below_drew1) | exact HB.out)) hb); have n2_ := Aside0.mk (hbox); have n3_ := Aside0.mk ((by rw [hg]; exact (below_size (by repeat (first | (with_reducible first | exact HB.out | apply below_alloc | apply pw_below_drewN | apply below_drew1) | exact HB.out))) : w.heap.size ≤ gb243)); have n4_ := Aside0.mk ((by rw [hg]; exact (below_size (by repeat (first | (with_reducible first | exact HB.out | apply below_alloc | apply pw_below_drewN | apply below_drew1) | exact HB.out))) : w.heap.size ≤ gb243)); clear HO_26; clear HB; have HO_26 := n0_; have HB := n1_; have BK243 := n2_; have GW243 := n3_; have GE243 := n4_; clear n0_ n1_ n2_ n3_ n4_; clear hb hbox hg; have hcz40_0 : w39.cell? ⟨gb243, 0, none⟩ = some (.int .i64 0) := (blk_cell BK243.out 0).trans rfl; have hcz40_1 : w39.cell? ⟨gb243, 1, none⟩ = some (.string (⟨#[]⟩ : ByteArray)) := (blk_cell BK243.out 1).trans rfl; have hcz40_2 : w39.cell? ⟨gb243, 2, none⟩ = some (.int .i64 0) := (blk_cell BK243.out 2).trans rfl; have hcz40_3 : w39.cell? ⟨gb243, 3, none⟩ = some (.int .i64 0) := (blk_cell BK243.out 3).trans rfl; have hfz40_0 := blk_frozen BK243.out 0; have hfz40_1 := blk_frozen BK243.out 1; have hfz40_2 := blk_frozen BK243.out 2; have hfz40_3 := blk_frozen BK243.out 3))
                      go_ret
                      exact ⟨by first | rfl | (simp [errW_none, errW_some] <;> rfl) | (simp [*, errW_none, errW_some] <;> rfl), by repeat (first | (with_reducible first | exact HB.out | apply below_alloc | apply pw_below_drewN | apply below_drew1 | refine below_set ?_ GE243.out) | exact HB.out)⟩
                    · rw [if_neg c38] at H
                      have c38b0 : decide (((rd_T32 t236 x28_1).f3) < x6_1) = false := decide_eq_false c38
                      clear c38
                      by_cases c41 : ((rd_T32 t236 x28_1).f3) > (wrap64 ((a0.size : Int) - (((rd_T32 t236 x28_1).f1).size : Int)))
                      · rw [if_pos c41] at H
                        have c41b0 : decide ((wrap64 ((a0.size : Int) - (((rd_T32 t236 x28_1).f1).size : Int))) < ((rd_T32 t236 x28_1).f3)) = true := decide_eq_true c41
                        clear c41
                        obtain rfl := Option.some.inj H
                        have p242 : 0 ≤ (x28_1 : Int) := of_decide_eq_true (by first | (with_reducible assumption) | assumption)
                        have q242 : x28_1 < (t236.length : Int) := of_decide_eq_true (by first | (with_reducible assumption) | assumption)
                        obtain ⟨ad242, e242, hx242_0, hx242_1, hx242_2, hx242_3⟩ := at_T32 (Kd.R_reads' HO_26.out).2.2 x28_1 p242 q242
                        cases e242
                        replace p242 := eq_true p242
                        replace q242 := eq_true q242
                        go_wp2_with (first | ((with_reducible refine gate_dst (N := 8) rfl ?_); (try (refine gate_guard (by rfl) ?_; dsimp only)); refine box_event ?hg (N := 8) ?hd (cs := #[.int .i64 0, .string (⟨#[]⟩ : ByteArray), .int .i64 0, .int .i64 0]) (t := 32) ?hr ?_; (case hd => rfl); (case hg => rfl); (case hr => first | (go_simp; done) | (go_simp; rfl)); intro gb243 hg w42 hbox hb; have n0_ := Aside0.mk (Kd.R_below (Kd.R_elderB (by (with_reducible repeat (first | apply Kd.R_alloc | apply Kd.R_drewN | apply Kd.R_drew)); exact HO_26.out) gb243 (Nat.le_of_eq hg.symm)) hb); have n1_ := Aside0.mk (below_step (by repeat (first | (with_reducible first | exact HB.out | apply below_alloc | apply pw_below_drewN | apply below_drew1) | exact HB.out)) hb); have n2_ := Aside0.mk (hbox); have n3_ := Aside0.mk ((by rw [hg]; exact (below_size (by repeat (first | (with_reducible first | exact HB.out | apply below_alloc | apply pw_below_drewN | apply below_drew1) | exact HB.out))) : w.heap.size ≤ gb243)); have n4_ := Aside0.mk ((by rw [hg]; exact (below_size (by repeat (first | (with_reducible first | exact HB.out | apply below_alloc | apply pw_below_drewN | apply below_drew1) | exact HB.out))) : w.heap.size ≤ gb243)); clear HO_26; clear HB; have HO_26 := n0_; have HB := n1_; have BK243 := n2_; have GW243 := n3_; have GE243 := n4_; clear n0_ n1_ n2_ n3_ n4_; clear hb hbox hg; have hcz43_0 : w42.cell? ⟨gb243, 0, none⟩ = some (.int .i64 0) := (blk_cell BK243.out 0).trans rfl; have hcz43_1 : w42.cell? ⟨gb243, 1, none⟩ = some (.string (⟨#[]⟩ : ByteArray)) := (blk_cell BK243.out 1).trans rfl; have hcz43_2 : w42.cell? ⟨gb243, 2, none⟩ = some (.int .i64 0) := (blk_cell BK243.out 2).trans rfl; have hcz43_3 : w42.cell? ⟨gb243, 3, none⟩ = some (.int .i64 0) := (blk_cell BK243.out 3).trans rfl; have hfz43_0 := blk_frozen BK243.out 0; have hfz43_1 := blk_frozen BK243.out 1; have hfz43_2 := blk_frozen BK243.out 2; have hfz43_3 := blk_frozen BK243.out 3))
                        go_ret
                        exact ⟨by first | rfl | (simp [errW_none, errW_some] <;> rfl) | (simp [*, errW_none, errW_some] <;> rfl), by repeat (first | (with_reducible first | exact HB.out | apply below_alloc | apply pw_below_drewN | apply below_drew1 | refine below_set ?_ GE243.out) | exact HB.out)⟩
                      · rw [if_neg c41] at H
                        have c41b0 : decide ((wrap64 ((a0.size : Int) - (((rd_T32 t236 x28_1).f1).size : Int))) < ((rd_T32 t236 x28_1).f3)) = false := decide_eq_false c41
                        clear c41
                        by_cases c44 : 0 ≤ ((rd_T32 t236 x28_1).f3)
                        · rw [if_pos c44] at H
                          have c44b0 := eq_true c44
                          have c44b1 : decide (0 ≤ ((rd_T32 t236 x28_1).f3)) = true := decide_eq_true c44
                          clear c44
                          by_cases c45 : ((rd_T32 t236 x28_1).f3) ≤ (wrap64 (((rd_T32 t236 x28_1).f3) + (((rd_T32 t236 x28_1).f1).size : Int)))
                          · rw [if_pos c45] at H
                            have c45b0 := eq_true c45
                            have c45b1 : decide (((rd_T32 t236 x28_1).f3) ≤ (wrap64 (((rd_T32 t236 x28_1).f3) + (((rd_T32 t236 x28_1).f1).size : Int)))) = true := decide_eq_true c45
                            by_cases c46 : (wrap64 (((rd_T32 t236 x28_1).f3) + (((rd_T32 t236 x28_1).f1).size : Int))) ≤ (a0.size : Int)
                            · rw [if_pos c46] at H
                              have c46b0 := eq_true c46
                              have c46b1 : decide ((wrap64 (((rd_T32 t236 x28_1).f3) + (((rd_T32 t236 x28_1).f1).size : Int))) ≤ (a0.size : Int)) = true := decide_eq_true c46
                              by_cases c47 : (a0.extract (((rd_T32 t236 x28_1).f3) : Int).toNat ((wrap64 (((rd_T32 t236 x28_1).f3) + (((rd_T32 t236 x28_1).f1).size : Int))) : Int).toNat).toList = ((rd_T32 t236 x28_1).f1).toList
                              · rw [if_pos c47] at H
                                have c47b0 : ((a0.extract (((rd_T32 t236 x28_1).f3) : Int).toNat ((wrap64 (((rd_T32 t236 x28_1).f3) + (((rd_T32 t236 x28_1).f1).size : Int))) : Int).toNat).toList == ((rd_T32 t236 x28_1).f1).toList) = true := beq_iff_eq.mpr c47
                                have c47b1 : ((a0.extract (((rd_T32 t236 x28_1).f3) : Int).toNat ((wrap64 (((rd_T32 t236 x28_1).f3) + (((rd_T32 t236 x28_1).f1).size : Int))) : Int).toNat).toList != ((rd_T32 t236 x28_1).f1).toList) = false := bne_eq_false_iff_eq.mpr c47
                                clear c47
                                by_cases c48 : 0 ≤ x6_1
                                · rw [if_pos c48] at H
                                  have c48b0 := eq_true c48
                                  have c48b1 : decide (0 ≤ x6_1) = true := decide_eq_true c48
                                  clear c48
                                  by_cases c49 : x6_1 ≤ ((rd_T32 t236 x28_1).f3)
                                  · rw [if_pos c49] at H
                                    have c49b0 := eq_true c49
                                    have c49b1 : decide (x6_1 ≤ ((rd_T32 t236 x28_1).f3)) = true := decide_eq_true c49
                                    clear c49
                                    by_cases c50 : ((rd_T32 t236 x28_1).f3) ≤ (a0.size : Int)
                                    · rw [if_pos c50] at H
                                      have c50b0 := eq_true c50
                                      have c50b1 : decide (((rd_T32 t236 x28_1).f3) ≤ (a0.size : Int)) = true := decide_eq_true c50
                                      clear c50
                                      replace H := Option.bind_eq_some_iff.mp H
                                      obtain ⟨t245, A510, H⟩ := H
                                      replace H : (if t245 = true then (whirligiglaw02_TokPlaces.l0 k1 a0 (wrap64 (((rd_T32 t236 x28_1).f3) + (((rd_T32 t236 x28_1).f1).size : Int))) t236 (t236.length : Int) (wrap64 (x28_1 + 1))) else (some false)) = some r := H
                                      have A51 := Aside0.mk A510
                                      clear A510
                                      by_cases c52 : t245 = true
                                      · subst c52
                                        have H1 : (whirligiglaw02_TokPlaces.l0 k1 a0 (wrap64 (((rd_T32 t236 x28_1).f3) + (((rd_T32 t236 x28_1).f1).size : Int))) t236 (t236.length : Int) (wrap64 (x28_1 + 1))) = some r := by rw [if_pos rfl] at H; exact H
                                        clear H
                                        have H := H1
                                        clear H1
                                        have H' := Aside0.mk H
                                        clear H
                                        have p242 : 0 ≤ (x28_1 : Int) := of_decide_eq_true (by first | (with_reducible assumption) | assumption)
                                        have q242 : x28_1 < (t236.length : Int) := of_decide_eq_true (by first | (with_reducible assumption) | assumption)
                                        obtain ⟨ad242, e242, hx242_0, hx242_1, hx242_2, hx242_3⟩ := at_T32 (Kd.R_reads' HO_26.out).2.2 x28_1 p242 q242
                                        cases e242
                                        replace p242 := eq_true p242
                                        replace q242 := eq_true q242
                                        go_wp2_with (first | ((with_reducible refine gate_dst (N := 8) rfl ?_); (try (refine gate_guard (by rfl) ?_; dsimp only)); refine box_event ?hg (N := 8) ?hd (cs := #[.int .i64 0, .string (⟨#[]⟩ : ByteArray), .int .i64 0, .int .i64 0]) (t := 32) ?hr ?_; (case hd => rfl); (case hg => rfl); (case hr => first | (go_simp; done) | (go_simp; rfl)); intro gb243 hg w53 hbox hb; have n0_ := Aside0.mk (Kd.R_below (Kd.R_elderB (by (with_reducible repeat (first | apply Kd.R_alloc | apply Kd.R_drewN | apply Kd.R_drew)); exact HO_26.out) gb243 (Nat.le_of_eq hg.symm)) hb); have n1_ := Aside0.mk (below_step (by repeat (first | (with_reducible first | exact HB.out | apply below_alloc | apply pw_below_drewN | apply below_drew1) | exact HB.out)) hb); have n2_ := Aside0.mk (hbox); have n3_ := Aside0.mk ((by rw [hg]; exact (below_size (by repeat (first | (with_reducible first | exact HB.out | apply below_alloc | apply pw_below_drewN | apply below_drew1) | exact HB.out))) : w.heap.size ≤ gb243)); have n4_ := Aside0.mk ((by rw [hg]; exact (below_size (by repeat (first | (with_reducible first | exact HB.out | apply below_alloc | apply pw_below_drewN | apply below_drew1) | exact HB.out))) : w.heap.size ≤ gb243)); clear HO_26; clear HB; have HO_26 := n0_; have HB := n1_; have BK243 := n2_; have GW243 := n3_; have GE243 := n4_; clear n0_ n1_ n2_ n3_ n4_; clear hb hbox hg; have hcz54_0 : w53.cell? ⟨gb243, 0, none⟩ = some (.int .i64 0) := (blk_cell BK243.out 0).trans rfl; have hcz54_1 : w53.cell? ⟨gb243, 1, none⟩ = some (.string (⟨#[]⟩ : ByteArray)) := (blk_cell BK243.out 1).trans rfl; have hcz54_2 : w53.cell? ⟨gb243, 2, none⟩ = some (.int .i64 0) := (blk_cell BK243.out 2).trans rfl; have hcz54_3 : w53.cell? ⟨gb243, 3, none⟩ = some (.int .i64 0) := (blk_cell BK243.out 3).trans rfl; have hfz54_0 := blk_frozen BK243.out 0; have hfz54_1 := blk_frozen BK243.out 1; have hfz54_2 := blk_frozen BK243.out 2; have hfz54_3 := blk_frozen BK243.out 3) | (go_at_call 22; (with_reducible refine (whirligiglaw02_blank.calls k1 (a0.extract (x6_1 : Int).toNat (((rd_T32 t236 x28_1).f3) : Int).toNat) true _ A51.out).mono ?_); rintro e w' ⟨rfl, ⟨nd, rfl⟩⟩))
                                        go_roundg k1
                                        case measure => have := HK1.out; omega
                                        case rel => exact ⟨(wrap64 (((rd_T32 t236 x28_1).f3) + (((rd_T32 t236 x28_1).f1).size : Int))), (wrap64 (x28_1 + 1)), (by first | rfl | (simp; done) | (simp [*]; done)), (by first | rfl | (simp; done) | (simp [*]; done)), H', ⟨by have := HK1.out; omega⟩, ⟨by (with_reducible repeat (first | apply Kd.R_alloc | apply Kd.R_drewN | apply Kd.R_drew)); exact Kd.R_mono (Kd.R_far (p := ⟨gb243, 3, none⟩) (Kd.R_far (p := ⟨gb243, 2, none⟩) (Kd.R_far (p := ⟨gb243, 1, none⟩) (Kd.R_far (p := ⟨gb243, 0, none⟩) (Kd.R_mono HO_26.out (fun k_ hk => (⟨hk, hk.2⟩ : _ ∧ k_ ≠ gb243))) (fun _ hk => hk.2) (.int .i64 ((rd_T32 t236 x28_1).f0))) (fun _ hk => hk.2) (.string ((rd_T32 t236 x28_1).f1))) (fun _ hk => hk.2) (.int .i64 ((rd_T32 t236 x28_1).f2))) (fun _ hk => hk.2) (.int .i64 ((rd_T32 t236 x28_1).f3))) (fun _ hk => trivial)⟩, ⟨by repeat (first | (with_reducible first | exact HB.out | apply below_alloc | apply pw_below_drewN | apply below_drew1 | refine below_set ?_ GE243.out) | exact HB.out)⟩⟩
                                      · replace c52 := Bool.eq_false_iff.mpr c52
                                        subst c52
                                        have H1 : (some false) = some r := by rw [if_neg (show ¬ (false = true) by decide)] at H; exact H
                                        clear H
                                        have H := H1
                                        clear H1
                                        obtain rfl := Option.some.inj H
                                        have p242 : 0 ≤ (x28_1 : Int) := of_decide_eq_true (by first | (with_reducible assumption) | assumption)
                                        have q242 : x28_1 < (t236.length : Int) := of_decide_eq_true (by first | (with_reducible assumption) | assumption)
                                        obtain ⟨ad242, e242, hx242_0, hx242_1, hx242_2, hx242_3⟩ := at_T32 (Kd.R_reads' HO_26.out).2.2 x28_1 p242 q242
                                        cases e242
                                        replace p242 := eq_true p242
                                        replace q242 := eq_true q242
                                        go_wp2_with (first | ((with_reducible refine gate_dst (N := 8) rfl ?_); (try (refine gate_guard (by rfl) ?_; dsimp only)); refine box_event ?hg (N := 8) ?hd (cs := #[.int .i64 0, .string (⟨#[]⟩ : ByteArray), .int .i64 0, .int .i64 0]) (t := 32) ?hr ?_; (case hd => rfl); (case hg => rfl); (case hr => first | (go_simp; done) | (go_simp; rfl)); intro gb243 hg w55 hbox hb; have n0_ := Aside0.mk (Kd.R_below (Kd.R_elderB (by (with_reducible repeat (first | apply Kd.R_alloc | apply Kd.R_drewN | apply Kd.R_drew)); exact HO_26.out) gb243 (Nat.le_of_eq hg.symm)) hb); have n1_ := Aside0.mk (below_step (by repeat (first | (with_reducible first | exact HB.out | apply below_alloc | apply pw_below_drewN | apply below_drew1) | exact HB.out)) hb); have n2_ := Aside0.mk (hbox); have n3_ := Aside0.mk ((by rw [hg]; exact (below_size (by repeat (first | (with_reducible first | exact HB.out | apply below_alloc | apply pw_below_drewN | apply below_drew1) | exact HB.out))) : w.heap.size ≤ gb243)); have n4_ := Aside0.mk ((by rw [hg]; exact (below_size (by repeat (first | (with_reducible first | exact HB.out | apply below_alloc | apply pw_below_drewN | apply below_drew1) | exact HB.out))) : w.heap.size ≤ gb243)); clear HO_26; clear HB; have HO_26 := n0_; have HB := n1_; have BK243 := n2_; have GW243 := n3_; have GE243 := n4_; clear n0_ n1_ n2_ n3_ n4_; clear hb hbox hg; have hcz56_0 : w55.cell? ⟨gb243, 0, none⟩ = some (.int .i64 0) := (blk_cell BK243.out 0).trans rfl; have hcz56_1 : w55.cell? ⟨gb243, 1, none⟩ = some (.string (⟨#[]⟩ : ByteArray)) := (blk_cell BK243.out 1).trans rfl; have hcz56_2 : w55.cell? ⟨gb243, 2, none⟩ = some (.int .i64 0) := (blk_cell BK243.out 2).trans rfl; have hcz56_3 : w55.cell? ⟨gb243, 3, none⟩ = some (.int .i64 0) := (blk_cell BK243.out 3).trans rfl; have hfz56_0 := blk_frozen BK243.out 0; have hfz56_1 := blk_frozen BK243.out 1; have hfz56_2 := blk_frozen BK243.out 2; have hfz56_3 := blk_frozen BK243.out 3) | (go_at_call 22; (with_reducible refine (whirligiglaw02_blank.calls k1 (a0.extract (x6_1 : Int).toNat (((rd_T32 t236 x28_1).f3) : Int).toNat) false _ A51.out).mono ?_); rintro e w' ⟨rfl, ⟨nd, rfl⟩⟩))
                                        go_ret
                                        exact ⟨by first | rfl | (simp [errW_none, errW_some] <;> rfl) | (simp [*, errW_none, errW_some] <;> rfl), by repeat (first | (with_reducible first | exact HB.out | apply below_alloc | apply pw_below_drewN | apply below_drew1 | refine below_set ?_ GE243.out) | exact HB.out)⟩
                                    · rw [if_neg c50] at H
                                      exact absurd H (by simp)
                                  · rw [if_neg c49] at H
                                    exact absurd H (by simp)
                                · rw [if_neg c48] at H
                                  exact absurd H (by simp)
                              · rw [if_neg c47] at H
                                have c47b0 : ((a0.extract (((rd_T32 t236 x28_1).f3) : Int).toNat ((wrap64 (((rd_T32 t236 x28_1).f3) + (((rd_T32 t236 x28_1).f1).size : Int))) : Int).toNat).toList == ((rd_T32 t236 x28_1).f1).toList) = false := beq_eq_false_iff_ne.mpr c47
                                have c47b1 : ((a0.extract (((rd_T32 t236 x28_1).f3) : Int).toNat ((wrap64 (((rd_T32 t236 x28_1).f3) + (((rd_T32 t236 x28_1).f1).size : Int))) : Int).toNat).toList != ((rd_T32 t236 x28_1).f1).toList) = true := bne_iff_ne.mpr c47
                                obtain rfl := Option.some.inj H
                                have p242 : 0 ≤ (x28_1 : Int) := of_decide_eq_true (by first | (with_reducible assumption) | assumption)
                                have q242 : x28_1 < (t236.length : Int) := of_decide_eq_true (by first | (with_reducible assumption) | assumption)
                                obtain ⟨ad242, e242, hx242_0, hx242_1, hx242_2, hx242_3⟩ := at_T32 (Kd.R_reads' HO_26.out).2.2 x28_1 p242 q242
                                cases e242
                                replace p242 := eq_true p242
                                replace q242 := eq_true q242
                                go_wp2_with (first | ((with_reducible refine gate_dst (N := 8) rfl ?_); (try (refine gate_guard (by rfl) ?_; dsimp only)); refine box_event ?hg (N := 8) ?hd (cs := #[.int .i64 0, .string (⟨#[]⟩ : ByteArray), .int .i64 0, .int .i64 0]) (t := 32) ?hr ?_; (case hd => rfl); (case hg => rfl); (case hr => first | (go_simp; done) | (go_simp; rfl)); intro gb243 hg w57 hbox hb; have n0_ := Aside0.mk (Kd.R_below (Kd.R_elderB (by (with_reducible repeat (first | apply Kd.R_alloc | apply Kd.R_drewN | apply Kd.R_drew)); exact HO_26.out) gb243 (Nat.le_of_eq hg.symm)) hb); have n1_ := Aside0.mk (below_step (by repeat (first | (with_reducible first | exact HB.out | apply below_alloc | apply pw_below_drewN | apply below_drew1) | exact HB.out)) hb); have n2_ := Aside0.mk (hbox); have n3_ := Aside0.mk ((by rw [hg]; exact (below_size (by repeat (first | (with_reducible first | exact HB.out | apply below_alloc | apply pw_below_drewN | apply below_drew1) | exact HB.out))) : w.heap.size ≤ gb243)); have n4_ := Aside0.mk ((by rw [hg]; exact (below_size (by repeat (first | (with_reducible first | exact HB.out | apply below_alloc | apply pw_below_drewN | apply below_drew1) | exact HB.out))) : w.heap.size ≤ gb243)); clear HO_26; clear HB; have HO_26 := n0_; have HB := n1_; have BK243 := n2_; have GW243 := n3_; have GE243 := n4_; clear n0_ n1_ n2_ n3_ n4_; clear hb hbox hg; have hcz58_0 : w57.cell? ⟨gb243, 0, none⟩ = some (.int .i64 0) := (blk_cell BK243.out 0).trans rfl; have hcz58_1 : w57.cell? ⟨gb243, 1, none⟩ = some (.string (⟨#[]⟩ : ByteArray)) := (blk_cell BK243.out 1).trans rfl; have hcz58_2 : w57.cell? ⟨gb243, 2, none⟩ = some (.int .i64 0) := (blk_cell BK243.out 2).trans rfl; have hcz58_3 : w57.cell? ⟨gb243, 3, none⟩ = some (.int .i64 0) := (blk_cell BK243.out 3).trans rfl; have hfz58_0 := blk_frozen BK243.out 0; have hfz58_1 := blk_frozen BK243.out 1; have hfz58_2 := blk_frozen BK243.out 2; have hfz58_3 := blk_frozen BK243.out 3))
                                go_ret
                                exact ⟨by first | rfl | (simp [errW_none, errW_some] <;> rfl) | (simp [*, errW_none, errW_some] <;> rfl), by repeat (first | (with_reducible first | exact HB.out | apply below_alloc | apply pw_below_drewN | apply below_drew1 | refine below_set ?_ GE243.out) | exact HB.out)⟩
                            · rw [if_neg c46] at H
                              exact absurd H (by simp)
                          · rw [if_neg c45] at H
                            exact absurd H (by simp)
                        · rw [if_neg c44] at H
                          exact absurd H (by simp)
                · rw [if_neg c13] at H
                  exact absurd H (by simp)
              · rw [if_neg c12] at H
                exact absurd H (by simp)
            · rw [if_neg c11] at H
              have c11b0 : decide (x28_1 < (t236.length : Int)) = false := decide_eq_false c11
              clear c11
              by_cases c59 : 0 ≤ x6_1
              · rw [if_pos c59] at H
                have c59b0 := eq_true c59
                have c59b1 : decide (0 ≤ x6_1) = true := decide_eq_true c59
                clear c59
                by_cases c60 : x6_1 ≤ (a0.size : Int)
                · rw [if_pos c60] at H
                  have c60b0 := eq_true c60
                  have c60b1 : decide (x6_1 ≤ (a0.size : Int)) = true := decide_eq_true c60
                  clear c60
                  replace H := Option.bind_eq_some_iff.mp H
                  obtain ⟨t241, A610, H⟩ := H
                  replace H : (some t241) = some r := H
                  have A61 := Aside0.mk A610
                  clear A610
                  obtain rfl := Option.some.inj H
                  go_wp2_with (first | ((with_reducible refine gate_callee (f := 22) rfl ?_); refine goesL_ (some 85) rfl rfl Tryd.func22 (by kernel_rfl) rfl #[.string (a0.extract (x6_1 : Int).toNat a0.size)] rfl (by (try simp only [List.map_toArray, List.map_cons, List.map_nil]); first | done | rfl | (simp only [List.length_drop, List.length_take]; rfl)) ?_; (with_reducible refine (whirligiglaw02_blank.calls k1 (a0.extract (x6_1 : Int).toNat a0.size) t241 _ A61.out).mono ?_); rintro e w' ⟨rfl, ⟨nd, rfl⟩⟩; refine ⟨_, rfl, ?_⟩))
                  go_ret
                  exact ⟨by first | rfl | (simp [errW_none, errW_some] <;> rfl) | (simp [*, errW_none, errW_some] <;> rfl), by repeat (first | (with_reducible first | exact HB.out | apply below_alloc | apply pw_below_drewN | apply below_drew1) | exact HB.out)⟩
                · rw [if_neg c60] at H
                  exact absurd H (by simp)
              · rw [if_neg c59] at H
                exact absurd H (by simp)
      · rw [if_neg c7] at H
        have c7b0 : (t237 == 0) = false := beq_eq_false_iff_ne.mpr c7
        have c7b1 : (t237 != 0) = true := bne_iff_ne.mpr c7
        obtain rfl := Option.some.inj H
        go_enter Tryd.func4, Tryd.ntmps4
        go_wp2_with (first | ((with_reducible refine gate_callee (f := 19) rfl ?_); refine goesL_ (some 10) rfl rfl Tryd.func19 (by kernel_rfl) rfl #[] rfl (by (try simp only [List.map_toArray, List.map_cons, List.map_nil]); first | done | rfl | (simp only [List.length_drop, List.length_take]; rfl)) ?_; (with_reducible refine (whirligiglaw02_anchor.calls k  true _ ?side1 A2.out).mono ?_); (case side1 => exact Laid.below HLD.out (by repeat (first | (with_reducible first | exact HB.out | apply below_alloc | apply pw_below_drewN | apply below_drew1) | exact HB.out))); rintro e w62 ⟨rfl, hb⟩; refine ⟨_, rfl, ?_⟩; have n0_ := Aside0.mk (below_step (by repeat (first | (with_reducible first | exact HB.out | apply below_alloc | apply pw_below_drewN | apply below_drew1) | exact HB.out)) hb); clear HB; have HB := n0_; clear n0_; (try clear hb); (try clear hb2); (try clear hk); (try clear hi)) | ((with_reducible refine gate_callee (f := 20) rfl ?_); refine goesL_ (some 17) rfl rfl Tryd.func20 (by kernel_rfl) rfl #[.string a0] rfl (by (try simp only [List.map_toArray, List.map_cons, List.map_nil]); first | done | rfl | (simp only [List.length_drop, List.length_take]; rfl)) ?_; (with_reducible refine (tok_Lex.calls k a0 t236 t237 t238 _ ?side1 A6.out).mono ?_); (case side1 => exact Laid.below HLD.out (by repeat (first | (with_reducible first | exact HB.out | apply below_alloc | apply pw_below_drewN | apply below_drew1) | exact HB.out))); rintro e w63 ⟨v239, rfl, ho0, hb⟩; refine ⟨_, rfl, ?_⟩; have n0_ := Aside0.mk (Kd.R_lower ho0 (below_size (by repeat (first | (with_reducible first | exact HB.out | apply below_alloc | apply pw_below_drewN | apply below_drew1) | exact HB.out)))); have n1_ := Aside0.mk (below_step (by repeat (first | (with_reducible first | exact HB.out | apply below_alloc | apply pw_below_drewN | apply below_drew1) | exact HB.out)) hb); clear HB; have HO240 := n0_; have HB := n1_; clear n0_ n1_; (try clear hb); (try clear hb2); (try clear hk); (try clear hi); (try clear ho0); obtain ⟨Ao64, co64, eo64⟩ := Kd.R_slice HO240.out; subst eo64))
        go_ret
        exact ⟨by first | rfl | (simp [errW_none, errW_some] <;> rfl) | (simp [*, errW_none, errW_some] <;> rfl), by repeat (first | (with_reducible first | exact HB.out | apply below_alloc | apply pw_below_drewN | apply below_drew1) | exact HB.out)⟩
  · replace c3 := Bool.eq_false_iff.mpr c3
    subst c3
    have H1 : (some false) = some r := by rw [if_neg (show ¬ (false = true) by decide)] at H; exact H
    clear H
    have H := H1
    clear H1
    obtain rfl := Option.some.inj H
    go_enter Tryd.func4, Tryd.ntmps4
    go_wp2_with (first | ((with_reducible refine gate_callee (f := 19) rfl ?_); refine goesL_ (some 10) rfl rfl Tryd.func19 (by kernel_rfl) rfl #[] rfl (by (try simp only [List.map_toArray, List.map_cons, List.map_nil]); first | done | rfl | (simp only [List.length_drop, List.length_take]; rfl)) ?_; (with_reducible refine (whirligiglaw02_anchor.calls k  false _ ?side1 A2.out).mono ?_); (case side1 => exact Laid.below HLD.out (by repeat (first | (with_reducible first | exact HB.out | apply below_alloc | apply pw_below_drewN | apply below_drew1) | exact HB.out))); rintro e w65 ⟨rfl, hb⟩; refine ⟨_, rfl, ?_⟩; have n0_ := Aside0.mk (below_step (by repeat (first | (with_reducible first | exact HB.out | apply below_alloc | apply pw_below_drewN | apply below_drew1) | exact HB.out)) hb); clear HB; have HB := n0_; clear n0_; (try clear hb); (try clear hb2); (try clear hk); (try clear hi)))
    go_ret
    exact ⟨by first | rfl | (simp [errW_none, errW_some] <;> rfl) | (simp [*, errW_none, errW_some] <;> rfl), by repeat (first | (with_reducible first | exact HB.out | apply below_alloc | apply pw_below_drewN | apply below_drew1) | exact HB.out)⟩
mutual
def tok_Token_Is.j0 : Nat → List ByteArray → Bool → Int → ByteArray → Int → Int → Option (Bool)
  | 0, _, _, _, _, _, _ => none
  | k + 1, x1, x14, x247000, x247001, x247002, x247003 => if x14 = true then (some false) else (tok_Token_Is.l0 k x1 (x1.length : Int) 0 x247000 x247001 x247002 x247003)
def tok_Token_Is.l0 : Nat → List ByteArray → Int → Int → Int → ByteArray → Int → Int → Option (Bool)
  | 0, _, _, _, _, _, _, _ => none
  | k + 1, x15, x16, x17, x247000, x247001, x247002, x247003 => if x17 < x16 then (if 0 ≤ x17 then (if x17 < (x15.length : Int) then (if x247001.toList = (rdOf ByteArray.empty x15 x17).toList then (some true) else (tok_Token_Is.l0 k x15 x16 (wrap64 (x17 + 1)) x247000 x247001 x247002 x247003)) else (none)) else (none)) else (some false)
end
def tok_Token_Is.f (k : Nat) (a0_0 : Int) (a0_1 : ByteArray) (a0_2 : Int) (a0_3 : Int) (l1 : List ByteArray) : Option (Bool) := if a0_0 = 1 then (tok_Token_Is.j0 k l1 false a0_0 a0_1 a0_2 a0_3) else (tok_Token_Is.j0 k l1 (a0_0 != 5) a0_0 a0_1 a0_2 a0_3)
theorem tok_Token_Is.mono_l : ∀ k, (∀ y0 y1 y2 y3 y4 y5, LeO (tok_Token_Is.j0 k y0 y1 y2 y3 y4 y5) (tok_Token_Is.j0 (k + 1) y0 y1 y2 y3 y4 y5)) ∧ (∀ y0 y1 y2 y3 y4 y5 y6, LeO (tok_Token_Is.l0 k y0 y1 y2 y3 y4 y5 y6) (tok_Token_Is.l0 (k + 1) y0 y1 y2 y3 y4 y5 y6))
  | 0 => ⟨fun _ _ _ _ _ _ r h => by simp [tok_Token_Is.j0] at h, fun _ _ _ _ _ _ _ r h => by simp [tok_Token_Is.l0] at h⟩
  | k + 1 => by
    obtain ⟨ih0, ih1⟩ := tok_Token_Is.mono_l k
    refine ⟨?_, ?_⟩
    · intro y0 y1 y2 y3 y4 y5
      unfold tok_Token_Is.j0
      repeat' first
      | (with_reducible exact ih0 _ _ _ _ _ _)
      | (with_reducible exact ih1 _ _ _ _ _ _ _)
      | (with_reducible exact LeO.refl _)
      | (with_reducible exact LeO.none _)
      | (with_reducible refine LeO.ite ?_ ?_)
      | (with_reducible refine LeO.bind ?_ (fun _ => ?_))
      | exact ih0 _ _ _ _ _ _
      | exact ih1 _ _ _ _ _ _ _
      | exact LeO.none _
      | refine LeO.ite ?_ ?_
      | refine LeO.bind ?_ (fun _ => ?_)
    · intro y0 y1 y2 y3 y4 y5 y6
      unfold tok_Token_Is.l0
      repeat' first
      | (with_reducible exact ih0 _ _ _ _ _ _)
      | (with_reducible exact ih1 _ _ _ _ _ _ _)
      | (with_reducible exact LeO.refl _)
      | (with_reducible exact LeO.none _)
      | (with_reducible refine LeO.ite ?_ ?_)
      | (with_reducible refine LeO.bind ?_ (fun _ => ?_))
      | exact ih0 _ _ _ _ _ _
      | exact ih1 _ _ _ _ _ _ _
      | exact LeO.none _
      | refine LeO.ite ?_ ?_
      | refine LeO.bind ?_ (fun _ => ?_)
theorem tok_Token_Is.mono : ∀ a0 a1 a2 a3 a4 k, LeO (tok_Token_Is.f k a0 a1 a2 a3 a4) (tok_Token_Is.f (k + 1) a0 a1 a2 a3 a4) := by
  intro a0 a1 a2 a3 a4 k
  obtain ⟨ih0, ih1⟩ := tok_Token_Is.mono_l k
  unfold tok_Token_Is.f
  repeat' first
      | (with_reducible exact ih0 _ _ _ _ _ _)
      | (with_reducible exact ih1 _ _ _ _ _ _ _)
      | (with_reducible exact LeO.refl _)
      | (with_reducible exact LeO.none _)
      | (with_reducible refine LeO.ite ?_ ?_)
      | (with_reducible refine LeO.bind ?_ (fun _ => ?_))
      | exact ih0 _ _ _ _ _ _
      | exact ih1 _ _ _ _ _ _ _
      | exact LeO.none _
      | refine LeO.ite ?_ ?_
      | refine LeO.bind ?_ (fun _ => ?_)
end Go.Proofs.YtbngfhlciebeeaaDoor.L
