/- Printed by a program of this session for this claim (the print's texts turned to twins of calls with a function value, and to given contracts): each Go function as a plain Lean function, and the proof that the Go code comes to its answers. Lean checks it. -/
import Derived.Test.YtbngfhlciebeeaaDoorLx0
import Derived.Test.YtbngfhlciebeeaaDoorLxeq31
import Derived.Test.YtbngfhlciebeeaaDoorLxf19
import Derived.Test.YtbngfhlciebeeaaDoorLxf112
import Derived.Test.YtbngfhlciebeeaaDoorGLex
namespace Go.Proofs.YtbngfhlciebeeaaDoor.L
open Go.RowKit Go.Proofs.YtbngfhlciebeeaaDoorW.PrintWords Go.Proofs.YtbngfhlciebeeaaDoorW.PrintLast Go.Proofs.YtbngfhlciebeeaaDoorW.PrintMore
attribute [local go_sem] max2_int min2_int max_two min_two max_three min_three max_four min_four   -- for this text's walks alone
set_option linter.unusedVariables false
set_option linter.unusedSimpArgs false

attribute [local go_sem high] eqA31
/-! ### whirligiglaw02_TokLexes: function 3 -/
mutual
def whirligiglaw02_TokLexes.j0 : Nat → List (S32) → List (S31) → Bool → Option (Bool)
  | 0, _, _, _ => none
  | k + 1, x3, x6, x41 => if x41 = true then (some false) else (whirligiglaw02_TokLexes.l0 k x3 x6 (x3.length : Int) 0)
def whirligiglaw02_TokLexes.l0 : Nat → List (S32) → List (S31) → Int → Int → Option (Bool)
  | 0, _, _, _, _ => none
  | k + 1, x3, x6, x43, x44 => if x44 < x43 then (if 0 ≤ x44 then (if x44 < (x3.length : Int) then (if x44 < (x6.length : Int) then (if (!(((rd_T32 x3 x44).f0) == ((rd_T31 x6 x44).f0)) || (!((((rd_T32 x3 x44).f1).toList) == (((rd_T31 x6 x44).f1).toList)) || (!(((rd_T32 x3 x44).f2) == ((rd_T31 x6 x44).f2)) || (!(((rd_T32 x3 x44).f3) == ((rd_T31 x6 x44).f3)))))) = true then (some false) else (whirligiglaw02_TokLexes.l0 k x3 x6 x43 (wrap64 (x44 + 1)))) else (none)) else (none)) else (none)) else (some true)
end
def whirligiglaw02_TokLexes.f (k : Nat) (a0 : ByteArray) : Option (Bool) := (whirligiglaw02_anchor.f k).bind fun t222 => (if t222 = true then (if (a0.size : Int) > 1000 then (some true) else ((tok_Lex.f k a0).bind fun bt223 => ((whirligigref02_Lex.f k a0).bind fun bt228 => (if bt223.2.1 = bt228.2.1 then (if bt223.2.2 = bt228.2.2 then (whirligiglaw02_TokLexes.j0 k bt223.1 bt228.1 ((bt223.1.length : Int) != (bt228.1.length : Int))) else (whirligiglaw02_TokLexes.j0 k bt223.1 bt228.1 true)) else (whirligiglaw02_TokLexes.j0 k bt223.1 bt228.1 true))))) else (some false))
theorem whirligiglaw02_TokLexes.mono_l : ∀ k, (∀ y0 y1 y2, LeO (whirligiglaw02_TokLexes.j0 k y0 y1 y2) (whirligiglaw02_TokLexes.j0 (k + 1) y0 y1 y2)) ∧ (∀ y0 y1 y2 y3, LeO (whirligiglaw02_TokLexes.l0 k y0 y1 y2 y3) (whirligiglaw02_TokLexes.l0 (k + 1) y0 y1 y2 y3))
  | 0 => ⟨fun _ _ _ r h => by simp [whirligiglaw02_TokLexes.j0] at h, fun _ _ _ _ r h => by simp [whirligiglaw02_TokLexes.l0] at h⟩
  | k + 1 => by
    obtain ⟨ih0, ih1⟩ := whirligiglaw02_TokLexes.mono_l k
    refine ⟨?_, ?_⟩
    · intro y0 y1 y2
      unfold whirligiglaw02_TokLexes.j0
      repeat' first
      | (with_reducible exact ih0 _ _ _)
      | (with_reducible exact ih1 _ _ _ _)
      | (with_reducible exact tok_Lex.mono _ _)
      | (with_reducible exact whirligiglaw02_anchor.mono _)
      | (with_reducible exact whirligigref02_Lex.mono _ _)
      | (with_reducible exact LeO.refl _)
      | (with_reducible exact LeO.none _)
      | (with_reducible refine LeO.ite ?_ ?_)
      | (with_reducible refine LeO.bind ?_ (fun _ => ?_))
      | exact ih0 _ _ _
      | exact ih1 _ _ _ _
      | exact tok_Lex.mono _ _
      | exact whirligiglaw02_anchor.mono _
      | exact whirligigref02_Lex.mono _ _
      | exact LeO.none _
      | refine LeO.ite ?_ ?_
      | refine LeO.bind ?_ (fun _ => ?_)
    · intro y0 y1 y2 y3
      unfold whirligiglaw02_TokLexes.l0
      repeat' first
      | (with_reducible exact ih0 _ _ _)
      | (with_reducible exact ih1 _ _ _ _)
      | (with_reducible exact tok_Lex.mono _ _)
      | (with_reducible exact whirligiglaw02_anchor.mono _)
      | (with_reducible exact whirligigref02_Lex.mono _ _)
      | (with_reducible exact LeO.refl _)
      | (with_reducible exact LeO.none _)
      | (with_reducible refine LeO.ite ?_ ?_)
      | (with_reducible refine LeO.bind ?_ (fun _ => ?_))
      | exact ih0 _ _ _
      | exact ih1 _ _ _ _
      | exact tok_Lex.mono _ _
      | exact whirligiglaw02_anchor.mono _
      | exact whirligigref02_Lex.mono _ _
      | exact LeO.none _
      | refine LeO.ite ?_ ?_
      | refine LeO.bind ?_ (fun _ => ?_)
theorem whirligiglaw02_TokLexes.mono : ∀ a0 k, LeO (whirligiglaw02_TokLexes.f k a0) (whirligiglaw02_TokLexes.f (k + 1) a0) := by
  intro a0 k
  obtain ⟨ih0, ih1⟩ := whirligiglaw02_TokLexes.mono_l k
  unfold whirligiglaw02_TokLexes.f
  repeat' first
      | (with_reducible exact ih0 _ _ _)
      | (with_reducible exact ih1 _ _ _ _)
      | (with_reducible exact tok_Lex.mono _ _)
      | (with_reducible exact whirligiglaw02_anchor.mono _)
      | (with_reducible exact whirligigref02_Lex.mono _ _)
      | (with_reducible exact LeO.refl _)
      | (with_reducible exact LeO.none _)
      | (with_reducible refine LeO.ite ?_ ?_)
      | (with_reducible refine LeO.bind ?_ (fun _ => ?_))
      | exact ih0 _ _ _
      | exact ih1 _ _ _ _
      | exact tok_Lex.mono _ _
      | exact whirligiglaw02_anchor.mono _
      | exact whirligigref02_Lex.mono _ _
      | exact LeO.none _
      | refine LeO.ite ?_ ?_
      | refine LeO.bind ?_ (fun _ => ?_)
set_option maxHeartbeats 8000000 in
set_option maxRecDepth 100000 in
theorem whirligiglaw02_TokLexes.calls (k : Nat) (a0 : ByteArray) (r : Bool) (w : World) (hL : Laid w) (h : whirligiglaw02_TokLexes.f k a0 = some r) :
    Calls Tryd.prog 3 #[.string a0] w fun e w' => e = .returned (.bool r) ∧ Below w.heap.size w w' := by
  have hu32 := Tryd.underlying32
  have hu31 := Tryd.underlying31
  have HB := Aside0.mk (Below.refl w.heap.size w)
  have HLD := Aside0.mk hL
  clear hL
  have H : ((whirligiglaw02_anchor.f k).bind fun t222 => (if t222 = true then (if (a0.size : Int) > 1000 then (some true) else ((tok_Lex.f k a0).bind fun bt223 => ((whirligigref02_Lex.f k a0).bind fun bt228 => (if bt223.2.1 = bt228.2.1 then (if bt223.2.2 = bt228.2.2 then (whirligiglaw02_TokLexes.j0 k bt223.1 bt228.1 ((bt223.1.length : Int) != (bt228.1.length : Int))) else (whirligiglaw02_TokLexes.j0 k bt223.1 bt228.1 true)) else (whirligiglaw02_TokLexes.j0 k bt223.1 bt228.1 true))))) else (some false))) = some r := h
  clear h
  replace H := Option.bind_eq_some_iff.mp H
  obtain ⟨t222, A20, H⟩ := H
  replace H : (if t222 = true then (if (a0.size : Int) > 1000 then (some true) else ((tok_Lex.f k a0).bind fun bt223 => ((whirligigref02_Lex.f k a0).bind fun bt228 => (if bt223.2.1 = bt228.2.1 then (if bt223.2.2 = bt228.2.2 then (whirligiglaw02_TokLexes.j0 k bt223.1 bt228.1 ((bt223.1.length : Int) != (bt228.1.length : Int))) else (whirligiglaw02_TokLexes.j0 k bt223.1 bt228.1 true)) else (whirligiglaw02_TokLexes.j0 k bt223.1 bt228.1 true))))) else (some false)) = some r := H
  have A2 := Aside0.mk A20
  clear A20
  by_cases c3 : t222 = true
  · subst c3
    have H1 : (if (a0.size : Int) > 1000 then (some true) else ((tok_Lex.f k a0).bind fun bt223 => ((whirligigref02_Lex.f k a0).bind fun bt228 => (if bt223.2.1 = bt228.2.1 then (if bt223.2.2 = bt228.2.2 then (whirligiglaw02_TokLexes.j0 k bt223.1 bt228.1 ((bt223.1.length : Int) != (bt228.1.length : Int))) else (whirligiglaw02_TokLexes.j0 k bt223.1 bt228.1 true)) else (whirligiglaw02_TokLexes.j0 k bt223.1 bt228.1 true))))) = some r := by rw [if_pos rfl] at H; exact H
    clear H
    have H := H1
    clear H1
    by_cases c4 : (a0.size : Int) > 1000
    · rw [if_pos c4] at H
      have c4b0 : decide (1000 < (a0.size : Int)) = true := decide_eq_true c4
      have c4b1 : decide (1000 < a0.size) = true := decide_eq_true (by omega)
      clear c4
      obtain rfl := Option.some.inj H
      go_enter Tryd.func3, Tryd.ntmps3
      go_wp2_with (first | (go_at_call 19; (with_reducible refine (whirligiglaw02_anchor.calls k  true _ ?side1 A2.out).mono ?_); (case side1 => exact Laid.below HLD.out (by repeat (first | (with_reducible first | exact HB.out | apply below_alloc | apply pw_below_drewN | apply below_drew1) | exact HB.out))); rintro e w5 ⟨rfl, hb⟩; have n0_ := Aside0.mk (below_step (by repeat (first | (with_reducible first | exact HB.out | apply below_alloc | apply pw_below_drewN | apply below_drew1) | exact HB.out)) hb); clear HB; have HB := n0_; clear n0_; (try clear hb); (try clear hb2); (try clear hk); (try clear hi)))
      repeat (go_quiet (first | (go_at_call 19; (with_reducible refine (whirligiglaw02_anchor.calls k  true _ ?side1 A2.out).mono ?_); (case side1 => exact Laid.below HLD.out (by repeat (first | (with_reducible first | exact HB.out | apply below_alloc | apply pw_below_drewN | apply below_drew1) | exact HB.out))); rintro e w5 ⟨rfl, hb⟩; have n0_ := Aside0.mk (below_step (by repeat (first | (with_reducible first | exact HB.out | apply below_alloc | apply pw_below_drewN | apply below_drew1) | exact HB.out)) hb); clear HB; have HB := n0_; clear n0_; (try clear hb); (try clear hb2); (try clear hk); (try clear hi))); try go_wp2_with (first | (go_at_call 19; (with_reducible refine (whirligiglaw02_anchor.calls k  true _ ?side1 A2.out).mono ?_); (case side1 => exact Laid.below HLD.out (by repeat (first | (with_reducible first | exact HB.out | apply below_alloc | apply pw_below_drewN | apply below_drew1) | exact HB.out))); rintro e w5 ⟨rfl, hb⟩; have n0_ := Aside0.mk (below_step (by repeat (first | (with_reducible first | exact HB.out | apply below_alloc | apply pw_below_drewN | apply below_drew1) | exact HB.out)) hb); clear HB; have HB := n0_; clear n0_; (try clear hb); (try clear hb2); (try clear hk); (try clear hi))))
      go_ret
      exact ⟨by first | rfl | (simp [errW_none, errW_some] <;> rfl) | (simp [*, errW_none, errW_some] <;> rfl), by repeat (first | (with_reducible first | exact HB.out | apply below_alloc | apply pw_below_drewN | apply below_drew1) | exact HB.out)⟩
    · rw [if_neg c4] at H
      have c4b0 : decide (1000 < (a0.size : Int)) = false := decide_eq_false c4
      have c4b1 : decide (1000 < a0.size) = false := decide_eq_false (by omega)
      clear c4
      replace H := Option.bind_eq_some_iff.mp H
      obtain ⟨⟨t223, t224, t225⟩, A60, H⟩ := H
      replace H : ((whirligigref02_Lex.f k a0).bind fun bt228 => (if t224 = bt228.2.1 then (if t225 = bt228.2.2 then (whirligiglaw02_TokLexes.j0 k t223 bt228.1 ((t223.length : Int) != (bt228.1.length : Int))) else (whirligiglaw02_TokLexes.j0 k t223 bt228.1 true)) else (whirligiglaw02_TokLexes.j0 k t223 bt228.1 true))) = some r := H
      have A6 := Aside0.mk A60
      clear A60
      replace H := Option.bind_eq_some_iff.mp H
      obtain ⟨⟨t228, t229, t230⟩, A70, H⟩ := H
      replace H : (if t224 = t229 then (if t225 = t230 then (whirligiglaw02_TokLexes.j0 k t223 t228 ((t223.length : Int) != (t228.length : Int))) else (whirligiglaw02_TokLexes.j0 k t223 t228 true)) else (whirligiglaw02_TokLexes.j0 k t223 t228 true)) = some r := H
      have A7 := Aside0.mk A70
      clear A70
      have HC8 := Aside0.mk H
      clear H
      go_enter Tryd.func3, Tryd.ntmps3
      go_upto_region 7 with (first | (go_at_call 19; (with_reducible refine (whirligiglaw02_anchor.calls k  true _ ?side1 A2.out).mono ?_); (case side1 => exact Laid.below HLD.out (by repeat (first | (with_reducible first | exact HB.out | apply below_alloc | apply pw_below_drewN | apply below_drew1) | exact HB.out))); rintro e w9 ⟨rfl, hb⟩; have n0_ := Aside0.mk (below_step (by repeat (first | (with_reducible first | exact HB.out | apply below_alloc | apply pw_below_drewN | apply below_drew1) | exact HB.out)) hb); clear HB; have HB := n0_; clear n0_; (try clear hb); (try clear hb2); (try clear hk); (try clear hi)) | (go_at_call 20; (with_reducible refine (tok_Lex.calls k a0 t223 t224 t225 _ ?side1 A6.out).mono ?_); (case side1 => exact Laid.below HLD.out (by repeat (first | (with_reducible first | exact HB.out | apply below_alloc | apply pw_below_drewN | apply below_drew1) | exact HB.out))); rintro e w10 ⟨v226, rfl, ho0, hb⟩; have n0_ := Aside0.mk (Kd.R_lower ho0 (below_size (by repeat (first | (with_reducible first | exact HB.out | apply below_alloc | apply pw_below_drewN | apply below_drew1) | exact HB.out)))); have n1_ := Aside0.mk (below_step (by repeat (first | (with_reducible first | exact HB.out | apply below_alloc | apply pw_below_drewN | apply below_drew1) | exact HB.out)) hb); clear HB; have HO227 := n0_; have HB := n1_; clear n0_ n1_; (try clear hb); (try clear hb2); (try clear hk); (try clear hi); (try clear ho0)) | (go_at_call 21; (with_reducible refine (whirligigref02_Lex.calls k a0 t228 t229 t230 _ A7.out).mono ?_); rintro e w11 ⟨v231, rfl, ho0, hb⟩; have n0_ := Aside0.mk (Kd.R_below (by (with_reducible repeat (first | apply Kd.R_alloc | apply Kd.R_drewN | apply Kd.R_drew)); exact HO227.out) hb); have n1_ := Aside0.mk (Kd.R_lower ho0 (below_size (by repeat (first | (with_reducible first | exact HB.out | apply below_alloc | apply pw_below_drewN | apply below_drew1) | exact HB.out)))); have n2_ := Aside0.mk (below_step (by repeat (first | (with_reducible first | exact HB.out | apply below_alloc | apply pw_below_drewN | apply below_drew1) | exact HB.out)) hb); clear HO227; clear HB; have HO227 := n0_; have HO232 := n1_; have HB := n2_; clear n0_ n1_ n2_; (try clear hb); (try clear hb2); (try clear hk); (try clear hi); (try clear ho0)))
      repeat (go_quiet (first | (go_at_call 19; (with_reducible refine (whirligiglaw02_anchor.calls k  true _ ?side1 A2.out).mono ?_); (case side1 => exact Laid.below HLD.out (by repeat (first | (with_reducible first | exact HB.out | apply below_alloc | apply pw_below_drewN | apply below_drew1) | exact HB.out))); rintro e w9 ⟨rfl, hb⟩; have n0_ := Aside0.mk (below_step (by repeat (first | (with_reducible first | exact HB.out | apply below_alloc | apply pw_below_drewN | apply below_drew1) | exact HB.out)) hb); clear HB; have HB := n0_; clear n0_; (try clear hb); (try clear hb2); (try clear hk); (try clear hi)) | (go_at_call 20; (with_reducible refine (tok_Lex.calls k a0 t223 t224 t225 _ ?side1 A6.out).mono ?_); (case side1 => exact Laid.below HLD.out (by repeat (first | (with_reducible first | exact HB.out | apply below_alloc | apply pw_below_drewN | apply below_drew1) | exact HB.out))); rintro e w10 ⟨v226, rfl, ho0, hb⟩; have n0_ := Aside0.mk (Kd.R_lower ho0 (below_size (by repeat (first | (with_reducible first | exact HB.out | apply below_alloc | apply pw_below_drewN | apply below_drew1) | exact HB.out)))); have n1_ := Aside0.mk (below_step (by repeat (first | (with_reducible first | exact HB.out | apply below_alloc | apply pw_below_drewN | apply below_drew1) | exact HB.out)) hb); clear HB; have HO227 := n0_; have HB := n1_; clear n0_ n1_; (try clear hb); (try clear hb2); (try clear hk); (try clear hi); (try clear ho0)) | (go_at_call 21; (with_reducible refine (whirligigref02_Lex.calls k a0 t228 t229 t230 _ A7.out).mono ?_); rintro e w11 ⟨v231, rfl, ho0, hb⟩; have n0_ := Aside0.mk (Kd.R_below (by (with_reducible repeat (first | apply Kd.R_alloc | apply Kd.R_drewN | apply Kd.R_drew)); exact HO227.out) hb); have n1_ := Aside0.mk (Kd.R_lower ho0 (below_size (by repeat (first | (with_reducible first | exact HB.out | apply below_alloc | apply pw_below_drewN | apply below_drew1) | exact HB.out)))); have n2_ := Aside0.mk (below_step (by repeat (first | (with_reducible first | exact HB.out | apply below_alloc | apply pw_below_drewN | apply below_drew1) | exact HB.out)) hb); clear HO227; clear HB; have HO227 := n0_; have HO232 := n1_; have HB := n2_; clear n0_ n1_ n2_; (try clear hb); (try clear hb2); (try clear hk); (try clear hi); (try clear ho0))); go_upto_region 7 with (first | (go_at_call 19; (with_reducible refine (whirligiglaw02_anchor.calls k  true _ ?side1 A2.out).mono ?_); (case side1 => exact Laid.below HLD.out (by repeat (first | (with_reducible first | exact HB.out | apply below_alloc | apply pw_below_drewN | apply below_drew1) | exact HB.out))); rintro e w9 ⟨rfl, hb⟩; have n0_ := Aside0.mk (below_step (by repeat (first | (with_reducible first | exact HB.out | apply below_alloc | apply pw_below_drewN | apply below_drew1) | exact HB.out)) hb); clear HB; have HB := n0_; clear n0_; (try clear hb); (try clear hb2); (try clear hk); (try clear hi)) | (go_at_call 20; (with_reducible refine (tok_Lex.calls k a0 t223 t224 t225 _ ?side1 A6.out).mono ?_); (case side1 => exact Laid.below HLD.out (by repeat (first | (with_reducible first | exact HB.out | apply below_alloc | apply pw_below_drewN | apply below_drew1) | exact HB.out))); rintro e w10 ⟨v226, rfl, ho0, hb⟩; have n0_ := Aside0.mk (Kd.R_lower ho0 (below_size (by repeat (first | (with_reducible first | exact HB.out | apply below_alloc | apply pw_below_drewN | apply below_drew1) | exact HB.out)))); have n1_ := Aside0.mk (below_step (by repeat (first | (with_reducible first | exact HB.out | apply below_alloc | apply pw_below_drewN | apply below_drew1) | exact HB.out)) hb); clear HB; have HO227 := n0_; have HB := n1_; clear n0_ n1_; (try clear hb); (try clear hb2); (try clear hk); (try clear hi); (try clear ho0)) | (go_at_call 21; (with_reducible refine (whirligigref02_Lex.calls k a0 t228 t229 t230 _ A7.out).mono ?_); rintro e w11 ⟨v231, rfl, ho0, hb⟩; have n0_ := Aside0.mk (Kd.R_below (by (with_reducible repeat (first | apply Kd.R_alloc | apply Kd.R_drewN | apply Kd.R_drew)); exact HO227.out) hb); have n1_ := Aside0.mk (Kd.R_lower ho0 (below_size (by repeat (first | (with_reducible first | exact HB.out | apply below_alloc | apply pw_below_drewN | apply below_drew1) | exact HB.out)))); have n2_ := Aside0.mk (below_step (by repeat (first | (with_reducible first | exact HB.out | apply below_alloc | apply pw_below_drewN | apply below_drew1) | exact HB.out)) hb); clear HO227; clear HB; have HO227 := n0_; have HO232 := n1_; have HB := n2_; clear n0_ n1_ n2_; (try clear hb); (try clear hb2); (try clear hk); (try clear hi); (try clear ho0))))
      (try simp only [Act.put, List.setIfInBounds_toArray, List.set_cons_zero, List.set_cons_succ])
      go_cut [41] (fun v41 wc => ∃ (kq : Nat) (x41_7 : Bool), v41 = .bool x41_7 ∧ Aside0 (whirligiglaw02_TokLexes.j0 kq t223 t228 x41_7 = some r) ∧ Aside0 (kq ≤ k) ∧ Aside0 (Kd.R k32 32 wc w.heap.size (fun _ => True) v226 t223) ∧ Aside0 (Kd.R k31 31 wc w.heap.size (fun _ => True) v231 t228) ∧ Aside0 (Below w.heap.size w wc))
      case first =>
        have H := HC8.out
        clear HC8
        by_cases c12 : t224 = t229
        · rw [if_pos c12] at H
          have c12b0 : (t224 == t229) = true := beq_iff_eq.mpr c12
          have c12b1 : (t224 != t229) = false := bne_eq_false_iff_eq.mpr c12
          clear c12
          (first | rw [c12b0] | (simp only [i64_w, i32_w]; rw [c12b0]) | skip)
          by_cases c13 : t225 = t230
          · rw [if_pos c13] at H
            have c13b0 : (t225 == t230) = true := beq_iff_eq.mpr c13
            have c13b1 : (t225 != t230) = false := bne_eq_false_iff_eq.mpr c13
            clear c13
            have H' := Aside0.mk H
            clear H
            obtain ⟨Ao14, co14, eo14⟩ := Kd.R_slice HO227.out
            subst eo14
            obtain ⟨Ao15, co15, eo15⟩ := Kd.R_slice HO232.out
            subst eo15
            go_wp2
            repeat (go_quiet (fail); try go_wp2)
            go_meet
            case rel => exact ⟨_, (((t223.length : Int) != (t228.length : Int))), (by first | rfl | (simp; done) | (simp [*]; done)), H', ⟨by first | omega | exact Nat.le_refl _⟩, ⟨by (with_reducible repeat (first | apply Kd.R_alloc | apply Kd.R_drewN | apply Kd.R_drew)); exact HO227.out⟩, ⟨by (with_reducible repeat (first | apply Kd.R_alloc | apply Kd.R_drewN | apply Kd.R_drew)); exact HO232.out⟩, ⟨by repeat (first | (with_reducible first | exact HB.out | apply below_alloc | apply pw_below_drewN | apply below_drew1) | exact HB.out)⟩⟩
          · rw [if_neg c13] at H
            have c13b0 : (t225 == t230) = false := beq_eq_false_iff_ne.mpr c13
            have c13b1 : (t225 != t230) = true := bne_iff_ne.mpr c13
            have H' := Aside0.mk H
            clear H
            go_wp2
            repeat (go_quiet (fail); try go_wp2)
            go_meet
            case rel => exact ⟨_, (true), (by first | rfl | (simp; done) | (simp [*]; done)), H', ⟨by first | omega | exact Nat.le_refl _⟩, ⟨by (with_reducible repeat (first | apply Kd.R_alloc | apply Kd.R_drewN | apply Kd.R_drew)); exact HO227.out⟩, ⟨by (with_reducible repeat (first | apply Kd.R_alloc | apply Kd.R_drewN | apply Kd.R_drew)); exact HO232.out⟩, ⟨by repeat (first | (with_reducible first | exact HB.out | apply below_alloc | apply pw_below_drewN | apply below_drew1) | exact HB.out)⟩⟩
        · rw [if_neg c12] at H
          have c12b0 : (t224 == t229) = false := beq_eq_false_iff_ne.mpr c12
          have c12b1 : (t224 != t229) = true := bne_iff_ne.mpr c12
          (first | rw [c12b0] | (simp only [i64_w, i32_w]; rw [c12b0]) | skip)
          have H' := Aside0.mk H
          clear H
          go_wp2
          repeat (go_quiet (fail); try go_wp2)
          go_meet
          case rel => exact ⟨_, (true), (by first | rfl | (simp; done) | (simp [*]; done)), H', ⟨by first | omega | exact Nat.le_refl _⟩, ⟨by (with_reducible repeat (first | apply Kd.R_alloc | apply Kd.R_drewN | apply Kd.R_drew)); exact HO227.out⟩, ⟨by (with_reducible repeat (first | apply Kd.R_alloc | apply Kd.R_drewN | apply Kd.R_drew)); exact HO232.out⟩, ⟨by repeat (first | (with_reducible first | exact HB.out | apply below_alloc | apply pw_below_drewN | apply below_drew1) | exact HB.out)⟩⟩
      case rest =>
        clear HC8
        try clear c1
        try clear p2
        try clear c3
        try clear c4
        try clear c4b0
        try clear c4b1
        try clear c12
        try clear c12b0
        try clear c12b1
        try clear c13
        try clear c13b0
        try clear c13b1
        obtain ⟨kq, x41_7, rfl, HA, HJ7, HO_3, HO_6, HB⟩ := hcut
        cases kq with
        | zero => exact absurd HA.out (by simp [whirligiglaw02_TokLexes.j0])
        | succ kj7 =>
          have H := HA.out
          clear HA
          simp only [whirligiglaw02_TokLexes.j0] at H
          by_cases c16 : x41_7 = true
          · subst c16
            have H1 : (some false) = some r := by rw [if_pos rfl] at H; exact H
            clear H
            have H := H1
            clear H1
            obtain rfl := Option.some.inj H
            go_wp2
            repeat (go_quiet (fail); try go_wp2)
            go_ret
            exact ⟨by first | rfl | (simp [errW_none, errW_some] <;> rfl) | (simp [*, errW_none, errW_some] <;> rfl), by repeat (first | (with_reducible first | exact HB.out | apply below_alloc | apply pw_below_drewN | apply below_drew1) | exact HB.out)⟩
          · replace c16 := Bool.eq_false_iff.mpr c16
            subst c16
            have H1 : (whirligiglaw02_TokLexes.l0 kj7 t223 t228 (t223.length : Int) 0) = some r := by rw [if_neg (show ¬ (false = true) by decide)] at H; exact H
            clear H
            have H := H1
            clear H1
            have H' := Aside0.mk H
            clear H
            obtain ⟨Ao17, co17, eo17⟩ := Kd.R_slice HO_3.out
            subst eo17
            go_wp2
            repeat (go_quiet (fail); try go_wp2)
            go_loopg [44] kj7 (fun kq v44 w' => ∃ (x44_2 : Int), v44 = .int .i64 x44_2 ∧ Aside0 (whirligiglaw02_TokLexes.l0 kq t223 t228 (t223.length : Int) x44_2 = some r) ∧ Aside0 (kq ≤ kj7) ∧ Aside0 (Kd.R k32 32 w' w.heap.size (fun _ => True) (.slice Ao17 t223.length co17) t223) ∧ Aside0 (Kd.R k31 31 w' w.heap.size (fun _ => True) v231 t228) ∧ Aside0 (Below w.heap.size w w'))
            case atStart => exact ⟨(0), (by first | rfl | (simp; done) | (simp [*]; done)), H', ⟨Nat.le_refl _⟩, ⟨by (with_reducible repeat (first | apply Kd.R_alloc | apply Kd.R_drewN | apply Kd.R_drew)); exact HO_3.out⟩, ⟨by (with_reducible repeat (first | apply Kd.R_alloc | apply Kd.R_drewN | apply Kd.R_drew)); exact HO_6.out⟩, ⟨by repeat (first | (with_reducible first | exact HB.out | apply below_alloc | apply pw_below_drewN | apply below_drew1) | exact HB.out)⟩⟩
            case round =>
              clear H'
              try clear c1
              try clear p2
              try clear c3
              try clear c4
              try clear c4b0
              try clear c4b1
              try clear c12
              try clear c12b0
              try clear c12b1
              try clear c13
              try clear c13b0
              try clear c13b1
              try clear c16
              try clear p2
              obtain ⟨x44_2, rfl, HA, HK2, HO_3, HO_6, HB⟩ := hrel
              cases gk with
              | zero => exact absurd HA.out (by simp [whirligiglaw02_TokLexes.l0])
              | succ k2 =>
                have H := HA.out
                clear HA
                simp only [whirligiglaw02_TokLexes.l0] at H
                by_cases c18 : x44_2 < (t223.length : Int)
                · rw [if_pos c18] at H
                  have c18b0 : decide (x44_2 < (t223.length : Int)) = true := decide_eq_true c18
                  clear c18
                  by_cases c19 : 0 ≤ x44_2
                  · rw [if_pos c19] at H
                    have c19b0 : decide (0 ≤ x44_2) = true := decide_eq_true c19
                    clear c19
                    by_cases c20 : x44_2 < (t223.length : Int)
                    · rw [if_pos c20] at H
                      have c20b0 : decide (x44_2 < (t223.length : Int)) = true := decide_eq_true c20
                      clear c20
                      by_cases c21 : x44_2 < (t228.length : Int)
                      · rw [if_pos c21] at H
                        have c21b0 : decide (x44_2 < (t228.length : Int)) = true := decide_eq_true c21
                        clear c21
                        by_cases c22 : (!(((rd_T32 t223 x44_2).f0) == ((rd_T31 t228 x44_2).f0)) || (!((((rd_T32 t223 x44_2).f1).toList) == (((rd_T31 t228 x44_2).f1).toList)) || (!(((rd_T32 t223 x44_2).f2) == ((rd_T31 t228 x44_2).f2)) || (!(((rd_T32 t223 x44_2).f3) == ((rd_T31 t228 x44_2).f3)))))) = true
                        · rw [if_pos c22] at H
                          have c22b0 : (!(((rd_T32 t223 x44_2).f0) == ((rd_T31 t228 x44_2).f0)) || (!((((rd_T32 t223 x44_2).f1).toList) == (((rd_T31 t228 x44_2).f1).toList)) || (!(((rd_T32 t223 x44_2).f2) == ((rd_T31 t228 x44_2).f2)) || (!(((rd_T32 t223 x44_2).f3) == ((rd_T31 t228 x44_2).f3)))))) = true := c22
                          clear c22
                          obtain rfl := Option.some.inj H
                          have p233 : 0 ≤ (x44_2 : Int) := of_decide_eq_true (by first | (with_reducible assumption) | assumption)
                          have q233 : x44_2 < (t223.length : Int) := of_decide_eq_true (by first | (with_reducible assumption) | assumption)
                          obtain ⟨ad233, e233, hx233_0, hx233_1, hx233_2, hx233_3⟩ := at_T32 (Kd.R_reads' HO_3.out).2.2 x44_2 p233 q233
                          cases e233
                          replace p233 := eq_true p233
                          replace q233 := eq_true q233
                          obtain ⟨Ao23, co23, eo23⟩ := Kd.R_slice HO_6.out
                          subst eo23
                          have p234 : 0 ≤ (x44_2 : Int) := of_decide_eq_true (by first | (with_reducible assumption) | assumption)
                          have q234 : x44_2 < (t228.length : Int) := of_decide_eq_true (by first | (with_reducible assumption) | assumption)
                          obtain ⟨ad234, e234, hx234_0, hx234_1, hx234_2, hx234_3⟩ := at_T31 (Kd.R_reads' HO_6.out).2.2 x44_2 p234 q234
                          cases e234
                          replace p234 := eq_true p234
                          replace q234 := eq_true q234
                          go_wp2
                          repeat (go_quiet (fail); try go_wp2)
                          go_ret
                          exact ⟨by first | rfl | (simp [errW_none, errW_some] <;> rfl) | (simp [*, errW_none, errW_some] <;> rfl), by repeat (first | (with_reducible first | exact HB.out | apply below_alloc | apply pw_below_drewN | apply below_drew1) | exact HB.out)⟩
                        · rw [if_neg c22] at H
                          have c22b0 : (!(((rd_T32 t223 x44_2).f0) == ((rd_T31 t228 x44_2).f0)) || (!((((rd_T32 t223 x44_2).f1).toList) == (((rd_T31 t228 x44_2).f1).toList)) || (!(((rd_T32 t223 x44_2).f2) == ((rd_T31 t228 x44_2).f2)) || (!(((rd_T32 t223 x44_2).f3) == ((rd_T31 t228 x44_2).f3)))))) = false := by simpa using c22
                          clear c22
                          have H' := Aside0.mk H
                          clear H
                          have p233 : 0 ≤ (x44_2 : Int) := of_decide_eq_true (by first | (with_reducible assumption) | assumption)
                          have q233 : x44_2 < (t223.length : Int) := of_decide_eq_true (by first | (with_reducible assumption) | assumption)
                          obtain ⟨ad233, e233, hx233_0, hx233_1, hx233_2, hx233_3⟩ := at_T32 (Kd.R_reads' HO_3.out).2.2 x44_2 p233 q233
                          cases e233
                          replace p233 := eq_true p233
                          replace q233 := eq_true q233
                          obtain ⟨Ao24, co24, eo24⟩ := Kd.R_slice HO_6.out
                          subst eo24
                          have p234 : 0 ≤ (x44_2 : Int) := of_decide_eq_true (by first | (with_reducible assumption) | assumption)
                          have q234 : x44_2 < (t228.length : Int) := of_decide_eq_true (by first | (with_reducible assumption) | assumption)
                          obtain ⟨ad234, e234, hx234_0, hx234_1, hx234_2, hx234_3⟩ := at_T31 (Kd.R_reads' HO_6.out).2.2 x44_2 p234 q234
                          cases e234
                          replace p234 := eq_true p234
                          replace q234 := eq_true q234
                          go_wp2
                          repeat (go_quiet (fail); try go_wp2)
                          go_roundg k2
                          case measure => have := HJ7.out; have := HK2.out; omega
                          case rel => exact ⟨(wrap64 (x44_2 + 1)), (by first | rfl | (simp; done) | (simp [*]; done)), H', ⟨by have := HJ7.out; have := HK2.out; omega⟩, ⟨by (with_reducible repeat (first | apply Kd.R_alloc | apply Kd.R_drewN | apply Kd.R_drew)); exact HO_3.out⟩, ⟨by (with_reducible repeat (first | apply Kd.R_alloc | apply Kd.R_drewN | apply Kd.R_drew)); exact HO_6.out⟩, ⟨by repeat (first | (with_reducible first | exact HB.out | apply below_alloc | apply pw_below_drewN | apply below_drew1) | exact HB.out)⟩⟩
                      · rw [if_neg c21] at H
                        exact absurd H (by simp)
                    · rw [if_neg c20] at H
                      exact absurd H (by simp)
                  · rw [if_neg c19] at H
                    exact absurd H (by simp)
                · rw [if_neg c18] at H
                  have c18b0 : decide (x44_2 < (t223.length : Int)) = false := decide_eq_false c18
                  clear c18
                  obtain rfl := Option.some.inj H
                  go_wp2
                  repeat (go_quiet (fail); try go_wp2)
                  go_ret
                  exact ⟨by first | rfl | (simp [errW_none, errW_some] <;> rfl) | (simp [*, errW_none, errW_some] <;> rfl), by repeat (first | (with_reducible first | exact HB.out | apply below_alloc | apply pw_below_drewN | apply below_drew1) | exact HB.out)⟩
  · replace c3 := Bool.eq_false_iff.mpr c3
    subst c3
    have H1 : (some false) = some r := by rw [if_neg (show ¬ (false = true) by decide)] at H; exact H
    clear H
    have H := H1
    clear H1
    obtain rfl := Option.some.inj H
    go_enter Tryd.func3, Tryd.ntmps3
    go_wp2_with (first | (go_at_call 19; (with_reducible refine (whirligiglaw02_anchor.calls k  false _ ?side1 A2.out).mono ?_); (case side1 => exact Laid.below HLD.out (by repeat (first | (with_reducible first | exact HB.out | apply below_alloc | apply pw_below_drewN | apply below_drew1) | exact HB.out))); rintro e w25 ⟨rfl, hb⟩; have n0_ := Aside0.mk (below_step (by repeat (first | (with_reducible first | exact HB.out | apply below_alloc | apply pw_below_drewN | apply below_drew1) | exact HB.out)) hb); clear HB; have HB := n0_; clear n0_; (try clear hb); (try clear hb2); (try clear hk); (try clear hi)))
    repeat (go_quiet (first | (go_at_call 19; (with_reducible refine (whirligiglaw02_anchor.calls k  false _ ?side1 A2.out).mono ?_); (case side1 => exact Laid.below HLD.out (by repeat (first | (with_reducible first | exact HB.out | apply below_alloc | apply pw_below_drewN | apply below_drew1) | exact HB.out))); rintro e w25 ⟨rfl, hb⟩; have n0_ := Aside0.mk (below_step (by repeat (first | (with_reducible first | exact HB.out | apply below_alloc | apply pw_below_drewN | apply below_drew1) | exact HB.out)) hb); clear HB; have HB := n0_; clear n0_; (try clear hb); (try clear hb2); (try clear hk); (try clear hi))); try go_wp2_with (first | (go_at_call 19; (with_reducible refine (whirligiglaw02_anchor.calls k  false _ ?side1 A2.out).mono ?_); (case side1 => exact Laid.below HLD.out (by repeat (first | (with_reducible first | exact HB.out | apply below_alloc | apply pw_below_drewN | apply below_drew1) | exact HB.out))); rintro e w25 ⟨rfl, hb⟩; have n0_ := Aside0.mk (below_step (by repeat (first | (with_reducible first | exact HB.out | apply below_alloc | apply pw_below_drewN | apply below_drew1) | exact HB.out)) hb); clear HB; have HB := n0_; clear n0_; (try clear hb); (try clear hb2); (try clear hk); (try clear hi))))
    go_ret
    exact ⟨by first | rfl | (simp [errW_none, errW_some] <;> rfl) | (simp [*, errW_none, errW_some] <;> rfl), by repeat (first | (with_reducible first | exact HB.out | apply below_alloc | apply pw_below_drewN | apply below_drew1) | exact HB.out)⟩

/-! ### whirligiglaw02_blank: function 22 -/
def whirligiglaw02_blank.l0 : Nat → ByteArray → Int → Int → Option (Bool)
  | 0, _, _, _ => none
  | k + 1, x0, x5, x6 => if x6 < x5 then (if 0 ≤ x6 then (if x6 < (x0.size : Int) then (if (bt x0 x6) = 32 then (whirligiglaw02_blank.l0 k x0 x5 (wrap64 (x6 + 1))) else (some false)) else (none)) else (none)) else (some true)
def whirligiglaw02_blank.f (k : Nat) (a0 : ByteArray) : Option (Bool) := whirligiglaw02_blank.l0 k a0 (a0.size : Int) 0
theorem whirligiglaw02_blank.mono_l : ∀ k, (∀ y0 y1 y2, LeO (whirligiglaw02_blank.l0 k y0 y1 y2) (whirligiglaw02_blank.l0 (k + 1) y0 y1 y2))
  | 0 => fun _ _ _ r h => by simp [whirligiglaw02_blank.l0] at h
  | k + 1 => by
    have ih0 := whirligiglaw02_blank.mono_l k
    · intro y0 y1 y2
      unfold whirligiglaw02_blank.l0
      repeat' first
      | (with_reducible exact ih0 _ _ _)
      | (with_reducible exact LeO.refl _)
      | (with_reducible exact LeO.none _)
      | (with_reducible refine LeO.ite ?_ ?_)
      | (with_reducible refine LeO.bind ?_ (fun _ => ?_))
      | exact ih0 _ _ _
      | exact LeO.none _
      | refine LeO.ite ?_ ?_
      | refine LeO.bind ?_ (fun _ => ?_)
theorem whirligiglaw02_blank.mono : ∀ a0 k, LeO (whirligiglaw02_blank.f k a0) (whirligiglaw02_blank.f (k + 1) a0) := by
  intro a0 k
  have ih0 := whirligiglaw02_blank.mono_l k
  unfold whirligiglaw02_blank.f
  repeat' first
      | (with_reducible exact ih0 _ _ _)
      | (with_reducible exact LeO.refl _)
      | (with_reducible exact LeO.none _)
      | (with_reducible refine LeO.ite ?_ ?_)
      | (with_reducible refine LeO.bind ?_ (fun _ => ?_))
      | exact ih0 _ _ _
      | exact LeO.none _
      | refine LeO.ite ?_ ?_
      | refine LeO.bind ?_ (fun _ => ?_)
set_option maxHeartbeats 8000000 in
set_option maxRecDepth 100000 in
theorem whirligiglaw02_blank.calls (k : Nat) (a0 : ByteArray) (r : Bool) (w : World) (h : whirligiglaw02_blank.f k a0 = some r) :
    Calls Tryd.prog 22 #[.string a0] w fun e w' => e = .returned (.bool r) ∧ Drawn0 w w' := by
  have H : (whirligiglaw02_blank.l0 k a0 (a0.size : Int) 0) = some r := h
  clear h
  have H' := Aside0.mk H
  clear H
  go_enter Tryd.func22, Tryd.ntmps22
  go_wp2
  go_loopg [6] k (fun kq v6 w' => ∃ (x6_1 : Int), v6 = .int .i64 x6_1 ∧ Aside0 (whirligiglaw02_blank.l0 kq a0 (a0.size : Int) x6_1 = some r) ∧ Aside0 (kq ≤ k) ∧ Drawn0 w w')
  case atStart => exact ⟨(0), (by first | rfl | (simp; done) | (simp [*]; done)), H', ⟨Nat.le_refl _⟩, by repeat (first | exact Drawn0.refl _ | apply Drawn0.step)⟩
  case round =>
    clear H'
    obtain ⟨x6_1, rfl, HA, HK1, ⟨m1, rfl⟩⟩ := hrel
    cases gk with
    | zero => exact absurd HA.out (by simp [whirligiglaw02_blank.l0])
    | succ k1 =>
      have H := HA.out
      clear HA
      simp only [whirligiglaw02_blank.l0] at H
      by_cases c2 : x6_1 < (a0.size : Int)
      · rw [if_pos c2] at H
        have c2b0 : decide (x6_1 < (a0.size : Int)) = true := decide_eq_true c2
        clear c2
        by_cases c3 : 0 ≤ x6_1
        · rw [if_pos c3] at H
          have c3b0 : decide (0 ≤ x6_1) = true := decide_eq_true c3
          clear c3
          by_cases c4 : x6_1 < (a0.size : Int)
          · rw [if_pos c4] at H
            have c4b0 : decide (x6_1 < (a0.size : Int)) = true := decide_eq_true c4
            clear c4
            by_cases c6 : (bt a0 x6_1) = 32
            · rw [if_pos c6] at H
              have c6b0 : ((bt a0 x6_1) == 32) = true := beq_iff_eq.mpr c6
              have c6b1 : ((bt a0 x6_1) != 32) = false := bne_eq_false_iff_eq.mpr c6
              clear c6
              have H' := Aside0.mk H
              clear H
              have p5 : 0 ≤ (x6_1 : Int) := of_decide_eq_true (by first | (with_reducible assumption) | assumption)
              have q5 : x6_1 < (a0.size : Int) := of_decide_eq_true (by first | (with_reducible assumption) | assumption)
              have hx5 := bt_at a0 x6_1
              replace p5 := eq_true p5
              replace q5 := eq_true q5
              go_wp2
              go_roundg k1
              case measure => have := HK1.out; omega
              case rel => exact ⟨(wrap64 (x6_1 + 1)), (by first | rfl | (simp; done) | (simp [*]; done)), H', ⟨by have := HK1.out; omega⟩, by repeat (first | exact Drawn0.refl _ | apply Drawn0.step)⟩
            · rw [if_neg c6] at H
              have c6b0 : ((bt a0 x6_1) == 32) = false := beq_eq_false_iff_ne.mpr c6
              have c6b1 : ((bt a0 x6_1) != 32) = true := bne_iff_ne.mpr c6
              obtain rfl := Option.some.inj H
              have p5 : 0 ≤ (x6_1 : Int) := of_decide_eq_true (by first | (with_reducible assumption) | assumption)
              have q5 : x6_1 < (a0.size : Int) := of_decide_eq_true (by first | (with_reducible assumption) | assumption)
              have hx5 := bt_at a0 x6_1
              replace p5 := eq_true p5
              replace q5 := eq_true q5
              go_wp2
              go_ret
              exact ⟨by first | rfl | (simp; done) | (simp [*]; done), by repeat (first | exact Drawn0.refl _ | apply Drawn0.step)⟩
          · rw [if_neg c4] at H
            exact absurd H (by simp)
        · rw [if_neg c3] at H
          exact absurd H (by simp)
      · rw [if_neg c2] at H
        have c2b0 : decide (x6_1 < (a0.size : Int)) = false := decide_eq_false c2
        clear c2
        obtain rfl := Option.some.inj H
        go_wp2
        go_ret
        exact ⟨by first | rfl | (simp; done) | (simp [*]; done), by repeat (first | exact Drawn0.refl _ | apply Drawn0.step)⟩

end Go.Proofs.YtbngfhlciebeeaaDoor.L
