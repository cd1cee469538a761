/- Printed and hand-written steps towards the row (KindForms), those that it reaches. -/
import Derived.Test.YtbngfhlciebeeaaDoorKindFormsG21
import Derived.Test.YtbngfhlciebeeaaDoorKindFormsG4
import Derived.Test.YtbngfhlciebeeaaDoorKindFormsG5
section
namespace Go.Proofs.YtbngfhlciebeeaaDoor.Sp
set_option linter.unusedVariables false
set_option linter.unusedSimpArgs false
open Go.RowKit Go.Proofs.YtbngfhlciebeeaaDoorW.PrintWords Go.Proofs.YtbngfhlciebeeaaDoorW.PrintMore Go.Proofs.YtbngfhlciebeeaaDoor.L
theorem up1 {j : Nat} (h : j ≤ 1000000000000000) : wrap64 ((j : Int) + 1) = ((j + 1 : Nat) : Int) := by rw [wrap_at (by omega) (by omega)]; omega
theorem depths_l0 (l : List S156) (hl : l.length ≤ 1000) (hL : ∀ (j : Nat) (h : j < l.length), Link l[j] j) : ∀ (d j : Nat) (ds : List Int), j ≤ l.length → l.length - j = d → ds.length = l.length →
    ∃ ys, Ev (fun k => expr_Expr_depths.l0 k ds l (l.length : Int) (j : Int)) ys ∧ ys.length = l.length := by
  intro d
  induction d with
  | zero =>
    intro j ds hj hd hds
    refine ⟨ds, Ev.succ ?_, hds⟩
    simp only [expr_Expr_depths.l0]
    exact Ev.neg (by omega) (Ev.some rfl)
  | succ d ih =>
    intro j ds hj hd hds
    have hjl : j < l.length := by omega
    have hk := hL j hjl
    have key : ∀ (b : Bool) (es : List Int), es.length = l.length → (b = true → 1 ≤ l[j].f0 ∧ l[j].f0 ≤ 15) → (b = false → ¬ (3 ≤ l[j].f0 ∧ l[j].f0 ≤ 15)) →
        ∃ ys, Ev (fun k => expr_Expr_depths.j1 k es (j : Int) l (l.length : Int) (j : Int) b l[j].f0 l[j].f1.f0 l[j].f1.f1 l[j].f1.f2 l[j].f2 l[j].f3 l[j].f4) ys ∧ ys.length = l.length := fun b es hes hb hb' => by
      suffices hx : ∃ ys, Ev (fun k => expr_Expr_depths.j1 (k + 1) es (j : Int) l (l.length : Int) (j : Int) b l[j].f0 l[j].f1.f0 l[j].f1.f1 l[j].f1.f2 l[j].f2 l[j].f3 l[j].f4) ys ∧ ys.length = l.length by
        obtain ⟨r, h, h'⟩ := hx
        exact ⟨r, Ev.succ h, h'⟩
      simp only [expr_Expr_depths.j1]
      rw [up1 (by omega)]
      cases b with
      | false =>
        have p' : ¬ decide (3 ≤ l[j].f0 ∧ l[j].f0 ≤ 15) = true := by simpa using hb' rfl
        obtain ⟨ys, hy, hyl⟩ := ih (j + 1) es (by omega) (by omega) hes
        exact ⟨ys, Ev.neg (by decide) (Ev.bind_some (two_eq _) (Ev.neg p' hy)), hyl⟩
      | true =>
        obtain ⟨hb1, hb2⟩ := hb rfl
        obtain ⟨k0, k1, k2⟩ := hk hb1 hb2
        by_cases p : 3 ≤ l[j].f0 ∧ l[j].f0 ≤ 15
        · have e4 := k2 p.1
          obtain ⟨ys, hy, hyl⟩ := ih (j + 1) ((es.set ((j : Int)).toNat (wrap64 (1 + (rd es l[j].f3)))).set ((j : Int)).toNat (mx (rd (es.set ((j : Int)).toNat (wrap64 (1 + (rd es l[j].f3)))) (j : Int)) (wrap64 (1 + (rd (es.set ((j : Int)).toNat (wrap64 (1 + (rd es l[j].f3)))) l[j].f4))))) (by omega) (by omega) (by simp [hes])
          exact ⟨ys, Ev.pos rfl (Ev.pos (by omega) (Ev.pos (by omega) (Ev.pos (by omega) (Ev.pos (by omega) (Ev.bind_some rfl (Ev.bind_some (two_eq _) (Ev.pos (decide_eq_true p) (Ev.pos (by omega) (Ev.pos (by omega) hy))))))))), hyl⟩
        · have p' : ¬ decide (3 ≤ l[j].f0 ∧ l[j].f0 ≤ 15) = true := by simpa using p
          obtain ⟨ys, hy, hyl⟩ := ih (j + 1) (es.set ((j : Int)).toNat (wrap64 (1 + (rd es l[j].f3)))) (by omega) (by omega) (by simp [hes])
          exact ⟨ys, Ev.pos rfl (Ev.pos (by omega) (Ev.pos (by omega) (Ev.pos (by omega) (Ev.pos (by omega) (Ev.bind_some rfl (Ev.bind_some (two_eq _) (Ev.neg p' hy))))))), hyl⟩
    suffices hx : ∃ ys, Ev (fun k => expr_Expr_depths.l0 (k + 1) ds l (l.length : Int) (j : Int)) ys ∧ ys.length = l.length by
      obtain ⟨r, h, h'⟩ := hx
      exact ⟨r, Ev.succ h, h'⟩
    simp only [expr_Expr_depths.l0]
    rw [rd156 hjl]
    by_cases o : l[j].f0 = 1 ∨ l[j].f0 = 2
    · obtain ⟨r, hr, hrl⟩ := key true (ds.set ((j : Int)).toNat 1) (by simp [hds]) (fun _ => by omega) (fun h => by cases h)
      exact ⟨r, Ev.pos (by omega) (Ev.pos (by omega) (Ev.pos (by omega) (Ev.pos (by omega) (Ev.bind_some rfl (Ev.bind_some (one_eq _) (Ev.pos (decide_eq_true o) hr)))))), hrl⟩
    · have o' : ¬ decide (l[j].f0 = 1 ∨ l[j].f0 = 2) = true := by simpa using o
      obtain ⟨r, hr, hrl⟩ := key (decide (3 ≤ l[j].f0 ∧ l[j].f0 ≤ 15)) (ds.set ((j : Int)).toNat 1) (by simp [hds]) (fun e => by have := of_decide_eq_true e; omega) (fun e => of_decide_eq_false e)
      exact ⟨r, Ev.pos (by omega) (Ev.pos (by omega) (Ev.pos (by omega) (Ev.pos (by omega) (Ev.bind_some rfl (Ev.bind_some (one_eq _) (Ev.neg o' (Ev.bind_some (two_eq _) hr))))))), hrl⟩
theorem depths_total (l : List S156) (hl : l.length ≤ 1000) (hL : ∀ (j : Nat) (h : j < l.length), Link l[j] j) : ∃ ys, Ev (fun k => expr_Expr_depths.f k l) ys ∧ ys.length = l.length := by
  unfold expr_Expr_depths.f
  obtain ⟨ys, hy, hyl⟩ := depths_l0 l hl hL l.length 0 (List.replicate ((l.length : Int) : Int).toNat 0) (by omega) (by omega) (by simp)
  exact ⟨ys, Ev.pos (by omega) (Ev.pos (by omega) hy), hyl⟩
theorem size_l0 (ds : List Int) (hl : ds.length ≤ 1000) : ∀ (d j : Nat), j ≤ ds.length → ds.length - j = d → ∃ r, Ev (fun k => expr_Expr_Size.l0 k ds (ds.length : Int) (j : Int)) r := by
  intro d
  induction d with
  | zero =>
    intro j hj hd
    refine ⟨0, Ev.succ ?_⟩
    simp only [expr_Expr_Size.l0]
    exact Ev.neg (by omega) (Ev.some rfl)
  | succ d ih =>
    intro j hj hd
    suffices hx : ∃ r, Ev (fun k => expr_Expr_Size.l0 (k + 1) ds (ds.length : Int) (j : Int)) r by
      obtain ⟨r, h⟩ := hx
      exact ⟨r, Ev.succ h⟩
    simp only [expr_Expr_Size.l0]
    rw [up1 (by omega)]
    obtain ⟨r, hr⟩ := ih (j + 1) (by omega) (by omega)
    by_cases g : (rd ds (j : Int)) > 8
    · exact ⟨23, Ev.pos (by omega) (Ev.pos (by omega) (Ev.pos (by omega) (Ev.pos g (Ev.some rfl))))⟩
    · exact ⟨r, Ev.pos (by omega) (Ev.pos (by omega) (Ev.pos (by omega) (Ev.neg g hr)))⟩
theorem size_total (l : List S156) (hl : l.length ≤ 1000) (hL : ∀ (j : Nat) (h : j < l.length), Link l[j] j) : ∃ r, Ev (fun k => expr_Expr_Size.f k l) r := by
  unfold expr_Expr_Size.f
  by_cases g : (l.length : Int) > 32
  · exact ⟨13, Ev.pos g (Ev.some rfl)⟩
  · obtain ⟨ys, hy, hyl⟩ := depths_total l hl hL
    obtain ⟨r, hr⟩ := size_l0 ys (by omega) ys.length 0 (by omega) (by omega)
    exact ⟨r, Ev.neg g (Ev.bind hy hr)⟩
theorem right_l0 (l : List S156) (hl : l.length ≤ 1000) (h0 : 0 < l.length) (ho : ∀ x ∈ l, Opn.okN x) : ∀ (d j : Nat), j ≤ l.length → l.length - j = d → (∀ (i : Nat) (h : i < l.length), i < j → Link l[i] i) →
    ∃ t, Ev (fun k => expr_Expr_Right.l0 k l l (l.length : Int) (j : Int)) t := by
  intro d
  induction d with
  | zero =>
    intro j hj hd hL
    have hL' : ∀ (i : Nat) (h : i < l.length), Link l[i] i := fun i h => hL i h (by omega)
    suffices hx : ∃ t, Ev (fun k => expr_Expr_Right.l0 (k + 1) l l (l.length : Int) (j : Int)) t by
      obtain ⟨r, h⟩ := hx
      exact ⟨r, Ev.succ h⟩
    simp only [expr_Expr_Right.l0]
    rw [wrap_at (x := (l.length : Int) - 1) (by omega) (by omega)]
    obtain ⟨q, hq⟩ := begins_total l hl hL' ((l.length : Int) - 1) (by omega)
    by_cases g : q = 0
    · obtain ⟨r, hr⟩ := size_total l hl hL'
      exact ⟨_, Ev.neg (by omega) (Ev.bind hq (Ev.pos g (Ev.bind hr (Ev.some rfl))))⟩
    · exact ⟨false, Ev.neg (by omega) (Ev.bind hq (Ev.neg g (Ev.some rfl)))⟩
  | succ d ih =>
    intro j hj hd hL
    have hjl : j < l.length := by omega
    suffices hx : ∃ t, Ev (fun k => expr_Expr_Right.l0 (k + 1) l l (l.length : Int) (j : Int)) t by
      obtain ⟨r, h⟩ := hx
      exact ⟨r, Ev.succ h⟩
    simp only [expr_Expr_Right.l0]
    rw [rd156 hjl, up1 (by omega)]
    obtain ⟨t, ht, hl'⟩ := node_right l[j] (j : Int) (by omega) (by omega) (ho _ (List.getElem_mem _))
    cases t with
    | false => exact ⟨false, Ev.pos (by omega) (Ev.pos (by omega) (Ev.pos (by omega) (Ev.bind ht (Ev.neg (by decide) (Ev.some rfl)))))⟩
    | true =>
      obtain ⟨r, hr⟩ := ih (j + 1) (by omega) (by omega) (fun i h hi => by
        by_cases e : i = j
        · subst e; exact hl' rfl
        · exact hL i h (by omega))
      exact ⟨r, Ev.pos (by omega) (Ev.pos (by omega) (Ev.pos (by omega) (Ev.bind ht (Ev.pos rfl hr))))⟩
theorem right_total (l : List S156) (hl : l.length ≤ 1000) (ho : ∀ x ∈ l, Opn.okN x) : ∃ t, Ev (fun k => expr_Expr_Right.f k l) t := by
  unfold expr_Expr_Right.f
  by_cases g : (l.length : Int) = 0
  · refine ⟨false, Ev.pos g (Ev.succ ?_)⟩
    simp only [expr_Expr_Right.j0]
    exact Ev.pos trivial (Ev.some rfl)
  · by_cases g2 : (l.length : Int) > 32
    · refine ⟨false, Ev.neg g (Ev.succ ?_)⟩
      simp only [expr_Expr_Right.j0]
      exact Ev.pos (decide_eq_true g2) (Ev.some rfl)
    · obtain ⟨t, ht⟩ := right_l0 l hl (by omega) ho l.length 0 (by omega) (by omega) (fun i h hi => by omega)
      refine ⟨t, Ev.neg g (Ev.succ ?_)⟩
      simp only [expr_Expr_Right.j0]
      exact Ev.neg (by simpa using g2) ht
end Go.Proofs.YtbngfhlciebeeaaDoor.Sp
end
section
namespace Go.Proofs.YtbngfhlciebeeaaDoor.L
open Go.RowKit Go.Proofs.YtbngfhlciebeeaaDoorW.PrintWords Go.Proofs.YtbngfhlciebeeaaDoorW.PrintLast Go.Proofs.YtbngfhlciebeeaaDoorW.PrintMore
attribute [local go_sem] max2_int min2_int max_two min_two max_three min_three max_four min_four   -- for this text's walks alone
set_option linter.unusedVariables false
set_option linter.unusedSimpArgs false
def slices_Index_string_string.l0 : Nat → List ByteArray → ByteArray → Int → Int → Option (Int)
 | 0, _, _, _, _ => none
 | k + 1, x0, x1, x7, x8 => if x8 < x7 then (if 0 ≤ x8 then (if x8 < (x0.length : Int) then (if x1.toList = (rdOf ByteArray.empty x0 x8).toList then (some x8) else (slices_Index_string_string.l0 k x0 x1 x7 (wrap64 (x8 + 1)))) else (none)) else (none)) else (some (-1))
def slices_Index_string_string.f (k : Nat) (l0 : List ByteArray) (a1 : ByteArray) : Option (Int) := slices_Index_string_string.l0 k l0 a1 (l0.length : Int) 0
set_option maxHeartbeats 8000000 in
set_option maxRecDepth 100000 in
theorem slices_Index_string_string.calls (k : Nat) (A0 : Option Addr) (c0 : Nat) (l0 : List ByteArray) (a1 : ByteArray) (r : Int) (w : World) (hr0 : Kd.C Kd.string w A0 l0.length l0) (hc0 : l0.length ≤ c0) (h : slices_Index_string_string.f k l0 a1 = some r) :
  Calls Tryd.prog 143 #[.slice A0 l0.length c0, .string a1] w fun e w' => e = .returned (.int .i64 r) ∧ Drawn0 w w' := by
 have HR0 := Aside0.mk hr0
 have HC0 := Aside0.mk hc0
 clear hr0 hc0
 have H : (slices_Index_string_string.l0 k l0 a1 (l0.length : Int) 0) = some r := h
 clear h
 have H' := Aside0.mk H
 clear H
 go_enter Tryd.func143, Tryd.ntmps143
 go_wp2
 go_loopg [8] k (fun kq v8 w' => ∃ (x8_1 : Int), v8 = .int .i64 x8_1 ∧ Aside0 (slices_Index_string_string.l0 kq l0 a1 (l0.length : Int) x8_1 = some r) ∧ Aside0 (kq ≤ k) ∧ Drawn0 w w')
 case atStart => exact ⟨(0), (by first | rfl | (simp; done) | (simp [*]; done)), H', ⟨Nat.le_refl _⟩, by repeat (first | exact Drawn0.refl _ | apply Drawn0.step)⟩
 case round =>
  clear H'
  try clear c1
  try clear p2
  obtain ⟨x8_1, rfl, HA, HK1, ⟨m1, rfl⟩⟩ := hrel
  cases gk with
  | zero => exact absurd HA.out (by simp [slices_Index_string_string.l0])
  | succ k1 =>
   have H := HA.out
   clear HA
   simp only [slices_Index_string_string.l0] at H
   replace H := iD H
   rcases H with ⟨c3b0, H⟩ | ⟨c3b0, H⟩
   ·by_cases c4 : 0 ≤ x8_1
    ·rw [if_pos c4] at H
     have c4b0 := decide_eq_true c4
     clear c4
     replace H := iD H
     rcases H with ⟨c5b0, H⟩ | ⟨c5b0, H⟩
     ·by_cases c6 : a1.toList = (rdOf ByteArray.empty l0 x8_1).toList
      ·rw [if_pos c6] at H
       have c6b0 := beq_iff_eq.mpr c6
       have c6b1 := bne_eq_false_iff_eq.mpr c6
       clear c6
       obtain rfl := Option.some.inj H
       have p792 : 0 ≤ (x8_1 : Int) := qD
       have q792 : x8_1 < (l0.length : Int) := qD
       obtain ⟨ad792, e792, hx792_0⟩ := Kd.at_string HR0.out x8_1 p792 q792
       cases e792
       replace p792 := eq_true p792
       replace q792 := eq_true q792
       go_wp2
       go_ret
       exact ⟨by first | rfl | (simp; done) | (simp [*]; done), by repeat (first | exact Drawn0.refl _ | apply Drawn0.step)⟩
      ·rw [if_neg c6] at H
       have c6b0 := beq_eq_false_iff_ne.mpr c6
       have c6b1 := bne_iff_ne.mpr c6
       have H' := Aside0.mk H
       clear H
       have p792 : 0 ≤ (x8_1 : Int) := qD
       have q792 : x8_1 < (l0.length : Int) := qD
       obtain ⟨ad792, e792, hx792_0⟩ := Kd.at_string HR0.out x8_1 p792 q792
       cases e792
       replace p792 := eq_true p792
       replace q792 := eq_true q792
       go_wp2
       go_roundg k1
       case measure => have := HK1.out; omega
       case rel => exact ⟨(wrap64 (x8_1 + 1)), (by first | rfl | (simp; done) | (simp [*]; done)), H', ⟨by have := HK1.out; omega⟩, by repeat (first | exact Drawn0.refl _ | apply Drawn0.step)⟩
     ·exact absurd H (by simp)
    ·rw [if_neg c4] at H
     exact absurd H (by simp)
   ·obtain rfl := Option.some.inj H
    go_wp2
    go_ret
    exact ⟨by first | rfl | (simp; done) | (simp [*]; done), by repeat (first | exact Drawn0.refl _ | apply Drawn0.step)⟩
end Go.Proofs.YtbngfhlciebeeaaDoor.L
end
section
namespace Go.Proofs.YtbngfhlciebeeaaDoor.L
open Go.RowKit Go.Proofs.YtbngfhlciebeeaaDoorW.PrintWords Go.Proofs.YtbngfhlciebeeaaDoorW.PrintLast Go.Proofs.YtbngfhlciebeeaaDoorW.PrintMore
attribute [local go_sem] max2_int min2_int max_two min_two max_three min_three max_four min_four   -- for this text's walks alone
set_option linter.unusedVariables false
set_option linter.unusedSimpArgs false
def slices_Contains_string_string.f (k : Nat) (l0 : List ByteArray) (a1 : ByteArray) : Option (Bool) := (slices_Index_string_string.f k l0 a1).bind fun t793 => (some (decide (t793 ≥ 0)))
set_option maxHeartbeats 8000000 in
set_option maxRecDepth 100000 in
theorem slices_Contains_string_string.calls (k : Nat) (A0 : Option Addr) (c0 : Nat) (l0 : List ByteArray) (a1 : ByteArray) (r : Bool) (w : World) (hr0 : Kd.C Kd.string w A0 l0.length l0) (hc0 : l0.length ≤ c0) (h : slices_Contains_string_string.f k l0 a1 = some r) :
  Calls Tryd.prog 117 #[.slice A0 l0.length c0, .string a1] w fun e w' => e = .returned (.bool r) ∧ Drawn0 w w' := by
 have HR0 := Aside0.mk hr0
 have HC0 := Aside0.mk hc0
 clear hr0 hc0
 have H : ((slices_Index_string_string.f k l0 a1).bind fun t793 => (some (decide (t793 ≥ 0)))) = some r := h
 clear h
 replace H := Option.bind_eq_some_iff.mp H
 obtain ⟨t793, A30, H⟩ := H
 (try dsimp -simprocs only at H)
 have A3 := Aside0.mk A30
 clear A30
 obtain rfl := Option.some.inj H
 go_enter Tryd.func117, Tryd.ntmps117
 go_wp2_with (first | ((with_reducible refine gc 143 rfl ?_); refine gl (some 7) #[.slice A0 l0.length c0, .string a1] Tryd.func143 ?_; (with_reducible refine (slices_Index_string_string.calls k _ _ l0 a1 t793 _ ?side1 ?side2 A3.out).mono ?_); (case side1 => repeat (first | exact HR0.out | (with_reducible refine Kd.C_alloc ?_ _) | (with_reducible refine Kd.C_drewN ?_ _) | (with_reducible refine Kd.C_drew ?_))); (case side2 => exact HC0.out); rintro e w' ⟨rfl, ⟨nd, rfl⟩⟩; refine ⟨_, rfl, ?_⟩))
 go_ret
 exact ⟨by first | rfl | (simp; done) | (simp [*]; done), by repeat (first | exact Drawn0.refl _ | apply Drawn0.step)⟩
end Go.Proofs.YtbngfhlciebeeaaDoor.L
end
