/- Printed and hand-written steps towards the row (KindMore), those that it reaches. -/
import Derived.Test.YtbngfhlciebeeaaDoorKindMoreG4
import Derived.Test.YtbngfhlciebeeaaDoorKindMoreG5
import Derived.Test.YtbngfhlciebeeaaDoorKindMoreG18
import Derived.Test.YtbngfhlciebeeaaDoorKindMoreLxf93
import Derived.Test.YtbngfhlciebeeaaDoorKindMoreLxf94
import Derived.Test.YtbngfhlciebeeaaDoorKindMoreG15
section
namespace Go.Proofs.YtbngfhlciebeeaaDoor.L
open Go.RowKit Go.Proofs.YtbngfhlciebeeaaDoorW.PrintWords Go.Proofs.YtbngfhlciebeeaaDoorW.PrintLast Go.Proofs.YtbngfhlciebeeaaDoorW.PrintMore
attribute [local go_sem] max2_int min2_int max_two min_two max_three min_three max_four min_four   -- for this text's walks alone
set_option linter.unusedVariables false
set_option linter.unusedSimpArgs false
mutual
def expr_Expr_Right.j0 : Nat → List (S156) → Bool → Option (Bool)
 | 0, _, _ => none
 | k + 1, x0, x12 => if x12 = true then (some false) else (expr_Expr_Right.l0 k x0 x0 (x0.length : Int) 0)
def expr_Expr_Right.l0 : Nat → List (S156) → List (S156) → Int → Int → Option (Bool)
 | 0, _, _, _, _ => none
 | k + 1, x0, x13, x14, x15 => if x15 < x14 then (if 0 ≤ x15 then (if x15 < (x13.length : Int) then ((expr_Node_right.f k ((rd_T156 x13 x15).f0) ((rd_T156 x13 x15).f1.f0) ((rd_T156 x13 x15).f1.f1) ((rd_T156 x13 x15).f1.f2) ((rd_T156 x13 x15).f2) ((rd_T156 x13 x15).f3) ((rd_T156 x13 x15).f4) x15).bind fun t789 => (if t789 = true then (expr_Expr_Right.l0 k x0 x13 x14 (wrap64 (x15 + 1))) else (some false))) else (none)) else (none)) else ((expr_Expr_begins.f k x0 (wrap64 ((x0.length : Int) - 1))).bind fun t790 => (if t790 = 0 then ((expr_Expr_Size.f k x0).bind fun t791 => (some (t791 == 0))) else (some false)))
end
def expr_Expr_Right.f (k : Nat) (l0 : List (S156)) : Option (Bool) := if (l0.length : Int) = 0 then (expr_Expr_Right.j0 k l0 true) else (expr_Expr_Right.j0 k l0 (decide ((l0.length : Int) > 32)))
set_option maxHeartbeats 8000000 in
set_option maxRecDepth 100000 in
theorem expr_Expr_Right.calls (k : Nat) (A0 : Option Addr) (c0 : Nat) (l0 : List (S156)) (r : Bool) (w : World) (hr0 : Kd.C k156 w A0 l0.length l0) (hc0 : l0.length ≤ c0) (hL : Laid w) (h : expr_Expr_Right.f k l0 = some r) :
  Calls Tryd.prog 58 #[.slice A0 l0.length c0] w fun e w' => e = .returned (.bool r) ∧ Below w.heap.size w w' := by
 have hu156 := Tryd.underlying156
 have HR0 := Aside0.mk hr0
 have HC0 := Aside0.mk hc0
 clear hr0 hc0
 have HB := Aside0.mk (Below.refl w.heap.size w)
 have HLD := Aside0.mk hL
 clear hL
 have H : (if (l0.length : Int) = 0 then (expr_Expr_Right.j0 k l0 true) else (expr_Expr_Right.j0 k l0 (decide ((l0.length : Int) > 32)))) = some r := h
 clear h
 have HC2 := Aside0.mk H
 clear H
 go_enter Tryd.func58, Tryd.ntmps58
 go_upto_region 1 with (fail)
 go_cut [12] (fun v12 wc => ∃ (kq : Nat) (x12_1 : Bool), v12 = .bool x12_1 ∧ Aside0 (expr_Expr_Right.j0 kq l0 x12_1 = some r) ∧ Aside0 (kq ≤ k) ∧ Aside0 (Below w.heap.size w wc))
 case first =>
  have H := HC2.out
  clear HC2
  by_cases c3 : (l0.length : Int) = 0
  ·rw [if_pos c3] at H
   have c3b0 := beq_iff_eq.mpr c3
   have c3b1 := bne_eq_false_iff_eq.mpr c3
   clear c3
   (first | rw [c3b0] | (simp only [i64_w, i32_w]; rw [c3b0]) | skip)
   have H' := Aside0.mk H
   clear H
   go_wp2
   go_meet
   case rel => exact ⟨_, (true), (by first | rfl | (simp; done) | (simp [*]; done)), H', ⟨by first | omega | exact Nat.le_refl _⟩, ⟨qB⟩⟩
  ·rw [if_neg c3] at H
   have c3b0 := beq_eq_false_iff_ne.mpr c3
   have c3b1 := bne_iff_ne.mpr c3
   have c3b2 : ¬ (l0 = []) := fun h_ => c3 (by rw [h_]; rfl)
   (first | rw [c3b0] | (simp only [i64_w, i32_w]; rw [c3b0]) | skip)
   have H' := Aside0.mk H
   clear H
   go_wp2
   go_meet
   case rel => exact ⟨_, (decide ((l0.length : Int) > 32)), (by first | rfl | (simp; done) | (simp [*]; done)), H', ⟨by first | omega | exact Nat.le_refl _⟩, ⟨qB⟩⟩
 case rest =>
  clear HC2
  try clear p2
  try clear c3
  try clear c3b0
  try clear c3b1
  try clear c3b2
  obtain ⟨kq, x12_1, rfl, HA, HJ1, HB⟩ := hcut
  cases kq with
  | zero => exact absurd HA.out (by simp [expr_Expr_Right.j0])
  | succ kj1 =>
   have H := HA.out
   clear HA
   simp only [expr_Expr_Right.j0] at H
   by_cases c4 : x12_1 = true
   ·subst c4
    rw [if_pos rfl] at H
    obtain rfl := Option.some.inj H
    go_wp2
    go_ret
    exact ⟨qR, qB⟩
   ·replace c4 := Bool.eq_false_iff.mpr c4
    subst c4
    rw [if_neg (show ¬ (false = true) by decide)] at H
    have H' := Aside0.mk H
    clear H
    go_wp2
    go_loopg [15] kj1 (fun kq v15 w' => ∃ (x15_2 : Int), v15 = .int .i64 x15_2 ∧ Aside0 (expr_Expr_Right.l0 kq l0 l0 (l0.length : Int) x15_2 = some r) ∧ Aside0 (kq ≤ kj1) ∧ Aside0 (Below w.heap.size w w'))
    case atStart => exact ⟨(0), (by first | rfl | (simp; done) | (simp [*]; done)), H', ⟨Nat.le_refl _⟩, ⟨qB⟩⟩
    case round =>
     clear H'
     try clear p2 p2
     try clear c3
     try clear c3b0
     try clear c3b1
     try clear c3b2
     try clear c4
     obtain ⟨x15_2, rfl, HA, HK2, HB⟩ := hrel
     cases gk with
     | zero => exact absurd HA.out (by simp [expr_Expr_Right.l0])
     | succ k2 =>
      have H := HA.out
      clear HA
      simp only [expr_Expr_Right.l0] at H
      replace H := iD H
      rcases H with ⟨c5b0, H⟩ | ⟨c5b0, H⟩
      ·by_cases c6 : 0 ≤ x15_2
       ·rw [if_pos c6] at H
        have c6b0 := decide_eq_true c6
        clear c6
        replace H := iD H
        rcases H with ⟨c7b0, H⟩ | ⟨c7b0, H⟩
        ·replace H := Option.bind_eq_some_iff.mp H
         obtain ⟨t789, A80, H⟩ := H
         (try dsimp -simprocs only at H)
         have A8 := Aside0.mk A80
         clear A80
         by_cases c9 : t789 = true
         ·subst c9
          rw [if_pos rfl] at H
          have H' := Aside0.mk H
          clear H
          have p787 : 0 ≤ (x15_2 : Int) := qD
          have q787 : x15_2 < (l0.length : Int) := qD
          obtain ⟨ad787, e787, hx787_0, hx787_1, hx787_2, hx787_3, hx787_4, hx787_5, hx787_6⟩ := at_T156 (Kd.C_below HR0.out HB.out) x15_2 p787 q787
          cases e787
          replace p787 := eq_true p787
          replace q787 := eq_true q787
          go_wp2_with (first | ((with_reducible refine gate_dst (N := 4) rfl ?_); (try (refine gate_guard (by rfl) ?_; dsimp only)); refine box_event ?hg (N := 4) ?hd (cs := #[.int .i64 0, .int .i64 0, .int .i64 0, .string (⟨#[]⟩ : ByteArray), .string (⟨#[]⟩ : ByteArray), .int .i64 0, .int .i64 0]) (t := 156) ?hr ?_; (case hd => rfl); (case hg => rfl); (case hr => first | (go_simp; done) | (go_simp; rfl)); intro gb788 hg w10 hbox hb; have BK788 := Aside0.mk (hbox); have GW788 := geS hg; have GE788 := geS hg; replace HB := bst hb; clear hb hbox hg; obtain ⟨hcz11_0, hcz11_1, hcz11_2, hcz11_3, hcz11_4, hcz11_5, hcz11_6, hfz11_0, hfz11_1, hfz11_2, hfz11_3, hfz11_4, hfz11_5, hfz11_6⟩ := cells7 BK788.out) | ((with_reducible refine gc 93 rfl ?_); refine gl (some 22) #[.agg #[.int .i64 ((rd_T156 l0 x15_2).f0), .int .i64 ((rd_T156 l0 x15_2).f1.f0), .int .i64 ((rd_T156 l0 x15_2).f1.f1), .string ((rd_T156 l0 x15_2).f1.f2), .string ((rd_T156 l0 x15_2).f2), .int .i64 ((rd_T156 l0 x15_2).f3), .int .i64 ((rd_T156 l0 x15_2).f4)], .int .i64 x15_2] Tryd.func93 ?_; (with_reducible refine (expr_Node_right.calls k2 ((rd_T156 l0 x15_2).f0) ((rd_T156 l0 x15_2).f1.f0) ((rd_T156 l0 x15_2).f1.f1) ((rd_T156 l0 x15_2).f1.f2) ((rd_T156 l0 x15_2).f2) ((rd_T156 l0 x15_2).f3) ((rd_T156 l0 x15_2).f4) x15_2 true _ ?side1 A8.out).mono ?_); (case side1 => exact Laid.below HLD.out qB); rintro e w12 ⟨rfl, hb⟩; refine ⟨_, rfl, ?_⟩; replace BK788 := kp gb788 (.cells #[.int .i64 ((rd_T156 l0 x15_2).f0), .int .i64 ((rd_T156 l0 x15_2).f1.f0), .int .i64 ((rd_T156 l0 x15_2).f1.f1), .string ((rd_T156 l0 x15_2).f1.f2), .string ((rd_T156 l0 x15_2).f2), .int .i64 ((rd_T156 l0 x15_2).f3), .int .i64 ((rd_T156 l0 x15_2).f4)] 156 (0, 0)) hb; replace HB := bst hb; (try clear hb)))
          go_roundg k2
          case measure => have := HJ1.out; have := HK2.out; omega
          case rel => exact ⟨(wrap64 (x15_2 + 1)), (by first | rfl | (simp; done) | (simp [*]; done)), H', ⟨by have := HJ1.out; have := HK2.out; omega⟩, ⟨qB⟩⟩
         ·replace c9 := Bool.eq_false_iff.mpr c9
          subst c9
          rw [if_neg (show ¬ (false = true) by decide)] at H
          obtain rfl := Option.some.inj H
          have p787 : 0 ≤ (x15_2 : Int) := qD
          have q787 : x15_2 < (l0.length : Int) := qD
          obtain ⟨ad787, e787, hx787_0, hx787_1, hx787_2, hx787_3, hx787_4, hx787_5, hx787_6⟩ := at_T156 (Kd.C_below HR0.out HB.out) x15_2 p787 q787
          cases e787
          replace p787 := eq_true p787
          replace q787 := eq_true q787
          go_wp2_with (first | ((with_reducible refine gate_dst (N := 4) rfl ?_); (try (refine gate_guard (by rfl) ?_; dsimp only)); refine box_event ?hg (N := 4) ?hd (cs := #[.int .i64 0, .int .i64 0, .int .i64 0, .string (⟨#[]⟩ : ByteArray), .string (⟨#[]⟩ : ByteArray), .int .i64 0, .int .i64 0]) (t := 156) ?hr ?_; (case hd => rfl); (case hg => rfl); (case hr => first | (go_simp; done) | (go_simp; rfl)); intro gb788 hg w13 hbox hb; have BK788 := Aside0.mk (hbox); have GW788 := geS hg; have GE788 := geS hg; replace HB := bst hb; clear hb hbox hg; obtain ⟨hcz14_0, hcz14_1, hcz14_2, hcz14_3, hcz14_4, hcz14_5, hcz14_6, hfz14_0, hfz14_1, hfz14_2, hfz14_3, hfz14_4, hfz14_5, hfz14_6⟩ := cells7 BK788.out) | ((with_reducible refine gc 93 rfl ?_); refine gl (some 22) #[.agg #[.int .i64 ((rd_T156 l0 x15_2).f0), .int .i64 ((rd_T156 l0 x15_2).f1.f0), .int .i64 ((rd_T156 l0 x15_2).f1.f1), .string ((rd_T156 l0 x15_2).f1.f2), .string ((rd_T156 l0 x15_2).f2), .int .i64 ((rd_T156 l0 x15_2).f3), .int .i64 ((rd_T156 l0 x15_2).f4)], .int .i64 x15_2] Tryd.func93 ?_; (with_reducible refine (expr_Node_right.calls k2 ((rd_T156 l0 x15_2).f0) ((rd_T156 l0 x15_2).f1.f0) ((rd_T156 l0 x15_2).f1.f1) ((rd_T156 l0 x15_2).f1.f2) ((rd_T156 l0 x15_2).f2) ((rd_T156 l0 x15_2).f3) ((rd_T156 l0 x15_2).f4) x15_2 false _ ?side1 A8.out).mono ?_); (case side1 => exact Laid.below HLD.out qB); rintro e w15 ⟨rfl, hb⟩; refine ⟨_, rfl, ?_⟩; replace BK788 := kp gb788 (.cells #[.int .i64 ((rd_T156 l0 x15_2).f0), .int .i64 ((rd_T156 l0 x15_2).f1.f0), .int .i64 ((rd_T156 l0 x15_2).f1.f1), .string ((rd_T156 l0 x15_2).f1.f2), .string ((rd_T156 l0 x15_2).f2), .int .i64 ((rd_T156 l0 x15_2).f3), .int .i64 ((rd_T156 l0 x15_2).f4)] 156 (0, 0)) hb; replace HB := bst hb; (try clear hb)))
          go_ret
          exact ⟨qR, qB⟩
        ·exact absurd H (by simp)
       ·rw [if_neg c6] at H
        exact absurd H (by simp)
      ·replace H := Option.bind_eq_some_iff.mp H
       obtain ⟨t790, A160, H⟩ := H
       (try dsimp -simprocs only at H)
       have A16 := Aside0.mk A160
       clear A160
       by_cases c17 : t790 = 0
       ·rw [if_pos c17] at H
        have c17b0 := beq_iff_eq.mpr c17
        have c17b1 := bne_eq_false_iff_eq.mpr c17
        clear c17
        replace H := Option.bind_eq_some_iff.mp H
        obtain ⟨t791, A180, H⟩ := H
        (try dsimp -simprocs only at H)
        have A18 := Aside0.mk A180
        clear A180
        obtain rfl := Option.some.inj H
        go_wp2_with (first | ((with_reducible refine gc 94 rfl ?_); refine gl (some 29) #[.slice A0 l0.length c0, .int .i64 (wrap64 ((l0.length : Int) - 1))] Tryd.func94 ?_; (with_reducible refine (expr_Expr_begins.calls k2 _ _ l0 (wrap64 ((l0.length : Int) - 1)) t790 _ ?side1 ?side2 A16.out).mono ?_); (case side1 => exact qC); (case side2 => exact HC0.out); rintro e w19 ⟨rfl, hb⟩; refine ⟨_, rfl, ?_⟩; replace HB := bst hb; (try clear hb)) | (go_at_call 95; (with_reducible refine (expr_Expr_Size.calls k2 _ _ l0 t791 _ ?side1 ?side2 A18.out).mono ?_); (case side1 => exact qC); (case side2 => exact HC0.out); rintro e w20 ⟨rfl, hb⟩; replace HB := bst hb; (try clear hb)))
        go_ret
        exact ⟨qR, qB⟩
       ·rw [if_neg c17] at H
        have c17b0 := beq_eq_false_iff_ne.mpr c17
        have c17b1 := bne_iff_ne.mpr c17
        obtain rfl := Option.some.inj H
        go_wp2_with (first | ((with_reducible refine gc 94 rfl ?_); refine gl (some 29) #[.slice A0 l0.length c0, .int .i64 (wrap64 ((l0.length : Int) - 1))] Tryd.func94 ?_; (with_reducible refine (expr_Expr_begins.calls k2 _ _ l0 (wrap64 ((l0.length : Int) - 1)) t790 _ ?side1 ?side2 A16.out).mono ?_); (case side1 => exact qC); (case side2 => exact HC0.out); rintro e w21 ⟨rfl, hb⟩; refine ⟨_, rfl, ?_⟩; replace HB := bst hb; (try clear hb)))
        go_ret
        exact ⟨qR, qB⟩
end Go.Proofs.YtbngfhlciebeeaaDoor.L
end
section
namespace Go.Proofs.YtbngfhlciebeeaaDoor.Sp
set_option linter.unusedVariables false
set_option linter.unusedSimpArgs false
open Go.RowKit Go.Proofs.YtbngfhlciebeeaaDoorW.PrintWords Go.Proofs.YtbngfhlciebeeaaDoorW.PrintMore Go.Proofs.YtbngfhlciebeeaaDoor.L
theorem one_eq (x : Int) : expr_one.f x = some (decide (x = 1 ∨ x = 2)) := by
  unfold expr_one.f
  by_cases h : x = 1
  · rw [if_pos h, decide_eq_true (Or.inl h)]
  · rw [if_neg h]
    by_cases h2 : x = 2
    · rw [decide_eq_true (Or.inr h2), beq_iff_eq.2 h2]
    · rw [decide_eq_false (fun e => e.elim h h2), beq_eq_false_iff_ne.2 h2]
theorem two_eq (x : Int) : expr_two.f x = some (decide (3 ≤ x ∧ x ≤ 15)) := by
  unfold expr_two.f
  by_cases h : x ≥ 3
  · rw [if_pos h]
    by_cases h2 : x ≤ 15
    · rw [decide_eq_true h2, decide_eq_true ⟨h, h2⟩]
    · rw [decide_eq_false h2, decide_eq_false (fun e => h2 e.2)]
  · rw [if_neg h, decide_eq_false (fun e => h e.1)]
def Link (x : S156) (i : Int) : Prop := 1 ≤ x.f0 → x.f0 ≤ 15 → 0 ≤ x.f3 ∧ x.f3 < i ∧ (3 ≤ x.f0 → x.f4 = i - 1)
theorem rd156 {l : List S156} {j : Nat} (h : j < l.length) : rd_T156 l (j : Int) = l[j] := by
  unfold rd_T156
  rw [Int.toNat_natCast, List.getD_eq_getElem?_getD, List.getElem?_eq_getElem h]
  rfl
end Go.Proofs.YtbngfhlciebeeaaDoor.Sp
end
section
namespace Go.Proofs.YtbngfhlciebeeaaDoor.Sp
set_option linter.unusedVariables false
set_option linter.unusedSimpArgs false
open Go.RowKit Go.Proofs.YtbngfhlciebeeaaDoorW.PrintWords Go.Proofs.YtbngfhlciebeeaaDoorW.PrintMore Go.Proofs.YtbngfhlciebeeaaDoor.L
theorem up1 {j : Nat} (h : j ≤ 1000000000000000) : wrap64 ((j : Int) + 1) = ((j + 1 : Nat) : Int) := by rw [wrap_at (by omega) (by omega)]; omega
theorem depths_l0 (l : List S156) (hl : l.length ≤ 1000) (hL : ∀ (j : Nat) (h : j < l.length), Link l[j] j) : ∀ (d j : Nat) (ds : List Int), j ≤ l.length → l.length - j = d → ds.length = l.length →
    ∃ ys, Ev (fun k => expr_Expr_depths.l0 k ds l (l.length : Int) (j : Int)) ys ∧ ys.length = l.length := by
  intro d
  induction d with
  | zero =>
    intro j ds hj hd hds
    refine ⟨ds, Ev.succ ?_, hds⟩
    simp only [expr_Expr_depths.l0]
    exact Ev.neg (by omega) (Ev.some rfl)
  | succ d ih =>
    intro j ds hj hd hds
    have hjl : j < l.length := by omega
    have hk := hL j hjl
    have key : ∀ (b : Bool) (es : List Int), es.length = l.length → (b = true → 1 ≤ l[j].f0 ∧ l[j].f0 ≤ 15) → (b = false → ¬ (3 ≤ l[j].f0 ∧ l[j].f0 ≤ 15)) →
        ∃ ys, Ev (fun k => expr_Expr_depths.j1 k es (j : Int) l (l.length : Int) (j : Int) b l[j].f0 l[j].f1.f0 l[j].f1.f1 l[j].f1.f2 l[j].f2 l[j].f3 l[j].f4) ys ∧ ys.length = l.length := fun b es hes hb hb' => by
      suffices hx : ∃ ys, Ev (fun k => expr_Expr_depths.j1 (k + 1) es (j : Int) l (l.length : Int) (j : Int) b l[j].f0 l[j].f1.f0 l[j].f1.f1 l[j].f1.f2 l[j].f2 l[j].f3 l[j].f4) ys ∧ ys.length = l.length by
        obtain ⟨r, h, h'⟩ := hx
        exact ⟨r, Ev.succ h, h'⟩
      simp only [expr_Expr_depths.j1]
      rw [up1 (by omega)]
      cases b with
      | false =>
        have p' : ¬ decide (3 ≤ l[j].f0 ∧ l[j].f0 ≤ 15) = true := by simpa using hb' rfl
        obtain ⟨ys, hy, hyl⟩ := ih (j + 1) es (by omega) (by omega) hes
        exact ⟨ys, Ev.neg (by decide) (Ev.bind_some (two_eq _) (Ev.neg p' hy)), hyl⟩
      | true =>
        obtain ⟨hb1, hb2⟩ := hb rfl
        obtain ⟨k0, k1, k2⟩ := hk hb1 hb2
        by_cases p : 3 ≤ l[j].f0 ∧ l[j].f0 ≤ 15
        · have e4 := k2 p.1
          obtain ⟨ys, hy, hyl⟩ := ih (j + 1) ((es.set ((j : Int)).toNat (wrap64 (1 + (rd es l[j].f3)))).set ((j : Int)).toNat (mx (rd (es.set ((j : Int)).toNat (wrap64 (1 + (rd es l[j].f3)))) (j : Int)) (wrap64 (1 + (rd (es.set ((j : Int)).toNat (wrap64 (1 + (rd es l[j].f3)))) l[j].f4))))) (by omega) (by omega) (by simp [hes])
          exact ⟨ys, Ev.pos rfl (Ev.pos (by omega) (Ev.pos (by omega) (Ev.pos (by omega) (Ev.pos (by omega) (Ev.bind_some rfl (Ev.bind_some (two_eq _) (Ev.pos (decide_eq_true p) (Ev.pos (by omega) (Ev.pos (by omega) hy))))))))), hyl⟩
        · have p' : ¬ decide (3 ≤ l[j].f0 ∧ l[j].f0 ≤ 15) = true := by simpa using p
          obtain ⟨ys, hy, hyl⟩ := ih (j + 1) (es.set ((j : Int)).toNat (wrap64 (1 + (rd es l[j].f3)))) (by omega) (by omega) (by simp [hes])
          exact ⟨ys, Ev.pos rfl (Ev.pos (by omega) (Ev.pos (by omega) (Ev.pos (by omega) (Ev.pos (by omega) (Ev.bind_some rfl (Ev.bind_some (two_eq _) (Ev.neg p' hy))))))), hyl⟩
    suffices hx : ∃ ys, Ev (fun k => expr_Expr_depths.l0 (k + 1) ds l (l.length : Int) (j : Int)) ys ∧ ys.length = l.length by
      obtain ⟨r, h, h'⟩ := hx
      exact ⟨r, Ev.succ h, h'⟩
    simp only [expr_Expr_depths.l0]
    rw [rd156 hjl]
    by_cases o : l[j].f0 = 1 ∨ l[j].f0 = 2
    · obtain ⟨r, hr, hrl⟩ := key true (ds.set ((j : Int)).toNat 1) (by simp [hds]) (fun _ => by omega) (fun h => by cases h)
      exact ⟨r, Ev.pos (by omega) (Ev.pos (by omega) (Ev.pos (by omega) (Ev.pos (by omega) (Ev.bind_some rfl (Ev.bind_some (one_eq _) (Ev.pos (decide_eq_true o) hr)))))), hrl⟩
    · have o' : ¬ decide (l[j].f0 = 1 ∨ l[j].f0 = 2) = true := by simpa using o
      obtain ⟨r, hr, hrl⟩ := key (decide (3 ≤ l[j].f0 ∧ l[j].f0 ≤ 15)) (ds.set ((j : Int)).toNat 1) (by simp [hds]) (fun e => by have := of_decide_eq_true e; omega) (fun e => of_decide_eq_false e)
      exact ⟨r, Ev.pos (by omega) (Ev.pos (by omega) (Ev.pos (by omega) (Ev.pos (by omega) (Ev.bind_some rfl (Ev.bind_some (one_eq _) (Ev.neg o' (Ev.bind_some (two_eq _) hr))))))), hrl⟩
theorem depths_total (l : List S156) (hl : l.length ≤ 1000) (hL : ∀ (j : Nat) (h : j < l.length), Link l[j] j) : ∃ ys, Ev (fun k => expr_Expr_depths.f k l) ys ∧ ys.length = l.length := by
  unfold expr_Expr_depths.f
  obtain ⟨ys, hy, hyl⟩ := depths_l0 l hl hL l.length 0 (List.replicate ((l.length : Int) : Int).toNat 0) (by omega) (by omega) (by simp)
  exact ⟨ys, Ev.pos (by omega) (Ev.pos (by omega) hy), hyl⟩
theorem size_l0 (ds : List Int) (hl : ds.length ≤ 1000) : ∀ (d j : Nat), j ≤ ds.length → ds.length - j = d → ∃ r, Ev (fun k => expr_Expr_Size.l0 k ds (ds.length : Int) (j : Int)) r := by
  intro d
  induction d with
  | zero =>
    intro j hj hd
    refine ⟨0, Ev.succ ?_⟩
    simp only [expr_Expr_Size.l0]
    exact Ev.neg (by omega) (Ev.some rfl)
  | succ d ih =>
    intro j hj hd
    suffices hx : ∃ r, Ev (fun k => expr_Expr_Size.l0 (k + 1) ds (ds.length : Int) (j : Int)) r by
      obtain ⟨r, h⟩ := hx
      exact ⟨r, Ev.succ h⟩
    simp only [expr_Expr_Size.l0]
    rw [up1 (by omega)]
    obtain ⟨r, hr⟩ := ih (j + 1) (by omega) (by omega)
    by_cases g : (rd ds (j : Int)) > 8
    · exact ⟨23, Ev.pos (by omega) (Ev.pos (by omega) (Ev.pos (by omega) (Ev.pos g (Ev.some rfl))))⟩
    · exact ⟨r, Ev.pos (by omega) (Ev.pos (by omega) (Ev.pos (by omega) (Ev.neg g hr)))⟩
theorem size_total (l : List S156) (hl : l.length ≤ 1000) (hL : ∀ (j : Nat) (h : j < l.length), Link l[j] j) : ∃ r, Ev (fun k => expr_Expr_Size.f k l) r := by
  unfold expr_Expr_Size.f
  by_cases g : (l.length : Int) > 32
  · exact ⟨13, Ev.pos g (Ev.some rfl)⟩
  · obtain ⟨ys, hy, hyl⟩ := depths_total l hl hL
    obtain ⟨r, hr⟩ := size_l0 ys (by omega) ys.length 0 (by omega) (by omega)
    exact ⟨r, Ev.neg g (Ev.bind hy hr)⟩
end Go.Proofs.YtbngfhlciebeeaaDoor.Sp
end
section
namespace Go.Proofs.YtbngfhlciebeeaaDoor.L
open Go.RowKit Go.Proofs.YtbngfhlciebeeaaDoorW.PrintWords Go.Proofs.YtbngfhlciebeeaaDoorW.PrintLast Go.Proofs.YtbngfhlciebeeaaDoorW.PrintMore
attribute [local go_sem] max2_int min2_int max_two min_two max_three min_three max_four min_four   -- for this text's walks alone
set_option linter.unusedVariables false
set_option linter.unusedSimpArgs false
def val_Word.f (a0 : ByteArray) : Option (Int × Int × ByteArray) := some (3, 0, a0)
set_option maxHeartbeats 8000000 in
set_option maxRecDepth 100000 in
theorem val_Word.calls (a0 : ByteArray) (r1 : Int) (r2 : Int) (r3 : ByteArray) (w : World) (h : val_Word.f a0 = some (r1, r2, r3)) :
  Calls Tryd.prog 160 #[.string a0] w fun e w' => e = .returned (.agg #[.int .i64 r1, .int .i64 r2, .string r3]) ∧ Below w.heap.size w w' := by
 have hu103 := Tryd.underlying103
 have HB := Aside0.mk (Below.refl w.heap.size w)
 have H : (some (3, 0, a0)) = some (r1, r2, r3) := h
 clear h
 simp only [Option.some.injEq, Prod.mk.injEq] at H
 obtain ⟨rfl, rfl, rfl⟩ := H
 go_enter Tryd.func160, Tryd.ntmps160
 go_wp2_with (first | ((with_reducible refine gd 2 rfl ?_); refine bx 2 #[.int .i64 0, .int .i64 0, .string (⟨#[]⟩ : ByteArray)] 103 ?_; intro gb760 hg w2 hbox hb; have BK760 := Aside0.mk (hbox); have GW760 := geS hg; have GE760 := geS hg; replace HB := bst hb; clear hb hbox hg; obtain ⟨hcz3_0, hcz3_1, hcz3_2, hfz3_0, hfz3_1, hfz3_2⟩ := cells3 BK760.out))
 refine bodyPost_ret (results_cell_row rfl _ _ gb760 103 #[.int .i64 3, .int .i64 0, .string a0] (0, 0) _ rfl qP Tryd.underlying103 rfl (by kernel_rfl)) rfl ?_
 exact ⟨qR, qB⟩
end Go.Proofs.YtbngfhlciebeeaaDoor.L
end
section
namespace Go.Proofs.YtbngfhlciebeeaaDoor.L
open Go.RowKit Go.Proofs.YtbngfhlciebeeaaDoorW.PrintWords Go.Proofs.YtbngfhlciebeeaaDoorW.PrintLast Go.Proofs.YtbngfhlciebeeaaDoorW.PrintMore
attribute [local go_sem] max2_int min2_int max_two min_two max_three min_three max_four min_four   -- for this text's walks alone
set_option linter.unusedVariables false
set_option linter.unusedSimpArgs false
def val_Truth.f (a0 : Bool) : Option (Int × Int × ByteArray) := if a0 = true then (some (2, 1, (⟨#[]⟩ : ByteArray))) else (some (2, 0, (⟨#[]⟩ : ByteArray)))
set_option maxHeartbeats 8000000 in
set_option maxRecDepth 100000 in
theorem val_Truth.calls (a0 : Bool) (r1 : Int) (r2 : Int) (r3 : ByteArray) (w : World) (h : val_Truth.f a0 = some (r1, r2, r3)) :
  Calls Tryd.prog 65 #[.bool a0] w fun e w' => e = .returned (.agg #[.int .i64 r1, .int .i64 r2, .string r3]) ∧ Below w.heap.size w w' := by
 have hu103 := Tryd.underlying103
 have HB := Aside0.mk (Below.refl w.heap.size w)
 have H : (if a0 = true then (some (2, 1, (⟨#[]⟩ : ByteArray))) else (some (2, 0, (⟨#[]⟩ : ByteArray)))) = some (r1, r2, r3) := h
 clear h
 by_cases c2 : a0 = true
 ·subst c2
  rw [if_pos rfl] at H
  simp only [Option.some.injEq, Prod.mk.injEq] at H
  obtain ⟨rfl, rfl, rfl⟩ := H
  go_enter Tryd.func65, Tryd.ntmps65
  go_wp2_with (first | ((with_reducible refine gd 2 rfl ?_); refine bx 2 #[.int .i64 0, .int .i64 0, .string (⟨#[]⟩ : ByteArray)] 103 ?_; intro gb758 hg w3 hbox hb; have BK758 := Aside0.mk (hbox); have GW758 := geS hg; have GE758 := geS hg; replace HB := bst hb; clear hb hbox hg; obtain ⟨hcz4_0, hcz4_1, hcz4_2, hfz4_0, hfz4_1, hfz4_2⟩ := cells3 BK758.out))
  refine bodyPost_ret (results_cell_row rfl _ _ gb758 103 #[.int .i64 2, .int .i64 1, .string (⟨#[]⟩ : ByteArray)] (0, 0) _ rfl qP Tryd.underlying103 rfl (by kernel_rfl)) rfl ?_
  exact ⟨qR, qB⟩
 ·replace c2 := Bool.eq_false_iff.mpr c2
  subst c2
  rw [if_neg (show ¬ (false = true) by decide)] at H
  simp only [Option.some.injEq, Prod.mk.injEq] at H
  obtain ⟨rfl, rfl, rfl⟩ := H
  go_enter Tryd.func65, Tryd.ntmps65
  go_wp2_with (first | ((with_reducible refine gd 2 rfl ?_); refine bx 2 #[.int .i64 0, .int .i64 0, .string (⟨#[]⟩ : ByteArray)] 103 ?_; intro gb758 hg w5 hbox hb; have BK758 := Aside0.mk (hbox); have GW758 := geS hg; have GE758 := geS hg; replace HB := bst hb; clear hb hbox hg; obtain ⟨hcz6_0, hcz6_1, hcz6_2, hfz6_0, hfz6_1, hfz6_2⟩ := cells3 BK758.out))
  refine bodyPost_ret (results_cell_row rfl _ _ gb758 103 #[.int .i64 2, .int .i64 0, .string (⟨#[]⟩ : ByteArray)] (0, 0) _ rfl qP Tryd.underlying103 rfl (by kernel_rfl)) rfl ?_
  exact ⟨qR, qB⟩
end Go.Proofs.YtbngfhlciebeeaaDoor.L
end
section
namespace Go.Proofs.YtbngfhlciebeeaaDoor.L
set_option linter.unusedVariables false
set_option linter.unusedSimpArgs false
open Go.RowKit Go.Proofs.YtbngfhlciebeeaaDoorW.PrintWords Go.Proofs.YtbngfhlciebeeaaDoorW.PrintLast Go.Proofs.YtbngfhlciebeeaaDoorW.PrintMore
theorem size_alloc1 (w : World) (o : Obj) : (w.alloc o).heap.size = w.heap.size + 1 := by unfold World.alloc; exact Array.size_push ..
theorem size_up (w : World) (o : Obj) : w.heap.size ≤ (w.alloc o).heap.size := by rw [size_alloc1]; omega
end Go.Proofs.YtbngfhlciebeeaaDoor.L
end
