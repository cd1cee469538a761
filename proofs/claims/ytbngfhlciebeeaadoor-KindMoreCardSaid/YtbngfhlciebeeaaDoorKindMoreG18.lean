/- Printed and hand-written steps towards the row (KindMore), those that it reaches. -/
import Derived.Test.YtbngfhlciebeeaaDoorKindMoreG4
import Derived.Test.YtbngfhlciebeeaaDoorKindMoreG5
import Derived.Test.YtbngfhlciebeeaaDoorKindMoreLxf121
import Derived.Test.YtbngfhlciebeeaaDoorKindMoreG8
section
namespace Go.Proofs.YtbngfhlciebeeaaDoor.L
open Go.RowKit Go.Proofs.YtbngfhlciebeeaaDoorW.PrintWords Go.Proofs.YtbngfhlciebeeaaDoorW.PrintLast Go.Proofs.YtbngfhlciebeeaaDoorW.PrintMore
attribute [local go_sem] max2_int min2_int max_two min_two max_three min_three max_four min_four   -- for this text's walks alone
set_option linter.unusedVariables false
set_option linter.unusedSimpArgs false
def expr_Expr_Size.l0 : Nat → List Int → Int → Int → Option (Int)
 | 0, _, _, _ => none
 | k + 1, x9, x10, x11 => if x11 < x10 then (if 0 ≤ x11 then (if x11 < (x9.length : Int) then (if (rd x9 x11) > 8 then (some 23) else (expr_Expr_Size.l0 k x9 x10 (wrap64 (x11 + 1)))) else (none)) else (none)) else (some 0)
def expr_Expr_Size.f (k : Nat) (l0 : List (S156)) : Option (Int) := if (l0.length : Int) > 32 then (some 13) else ((expr_Expr_depths.f k l0).bind fun t721 => (expr_Expr_Size.l0 k t721 (t721.length : Int) 0))
set_option maxHeartbeats 8000000 in
set_option maxRecDepth 100000 in
theorem expr_Expr_Size.calls (k : Nat) (A0 : Option Addr) (c0 : Nat) (l0 : List (S156)) (r : Int) (w : World) (hr0 : Kd.C k156 w A0 l0.length l0) (hc0 : l0.length ≤ c0) (h : expr_Expr_Size.f k l0 = some r) :
  Calls Tryd.prog 95 #[.slice A0 l0.length c0] w fun e w' => e = .returned (.int .i64 r) ∧ Below w.heap.size w w' := by
 have HR0 := Aside0.mk hr0
 have HC0 := Aside0.mk hc0
 clear hr0 hc0
 have HB := Aside0.mk (Below.refl w.heap.size w)
 have H : (if (l0.length : Int) > 32 then (some 13) else ((expr_Expr_depths.f k l0).bind fun t721 => (expr_Expr_Size.l0 k t721 (t721.length : Int) 0))) = some r := h
 clear h
 by_cases c2 : (l0.length : Int) > 32
 ·rw [if_pos c2] at H
  have c2b0 := decide_eq_true c2
  have c2b1 : decide (32 < l0.length) = true := decide_eq_true (by omega)
  clear c2
  obtain rfl := Option.some.inj H
  go_enter Tryd.func95, Tryd.ntmps95
  go_wp2
  go_ret
  exact ⟨qR, qB⟩
 ·rw [if_neg c2] at H
  have c2b0 := decide_eq_false c2
  have c2b1 : decide (32 < l0.length) = false := decide_eq_false (by omega)
  clear c2
  replace H := Option.bind_eq_some_iff.mp H
  obtain ⟨t721, A30, H⟩ := H
  (try dsimp -simprocs only at H)
  have A3 := Aside0.mk A30
  clear A30
  have H' := Aside0.mk H
  clear H
  go_enter Tryd.func95, Tryd.ntmps95
  go_wp2_with (first | ((with_reducible refine gc 121 rfl ?_); refine gl (some 9) #[.slice A0 l0.length c0] Tryd.func121 ?_; (with_reducible refine (expr_Expr_depths.calls k _ _ l0 t721 _ ?side1 ?side2 A3.out).mono ?_); (case side1 => repeat (first | exact HR0.out | (with_reducible refine Kd.C_alloc ?_ _) | (with_reducible refine Kd.C_drewN ?_ _) | (with_reducible refine Kd.C_drew ?_))); (case side2 => exact HC0.out); rintro e w4 ⟨v722, rfl, ho0, hb⟩; refine ⟨_, rfl, ?_⟩; have HO723 := Aside0.mk (Kd.R_lower ho0 (below_size qB)); replace HB := bst hb; (try clear hb); (try clear ho0); obtain ⟨Ao5, co5, eo5⟩ := Kd.R_slice HO723.out; subst eo5))
  go_loopg [11] k (fun kq v11 w' => ∃ (x11_1 : Int), v11 = .int .i64 x11_1 ∧ Aside0 (expr_Expr_Size.l0 kq t721 (t721.length : Int) x11_1 = some r) ∧ Aside0 (kq ≤ k) ∧ Aside0 (Kd.R (Kd.int .i64) 3 w' w.heap.size (fun _ => True) (.slice Ao5 t721.length co5) t721) ∧ Aside0 (Below w.heap.size w w'))
  case atStart => exact ⟨(0), (by first | rfl | (simp; done) | (simp [*]; done)), H', ⟨Nat.le_refl _⟩, ⟨by (with_reducible repeat (first | apply Kd.R_alloc | apply Kd.R_drewN | apply Kd.R_drew)); exact HO723.out⟩, ⟨qB⟩⟩
  case round =>
   clear H'
   try clear c1
   try clear c2
   try clear c2b0
   try clear c2b1
   try clear p2
   obtain ⟨x11_1, rfl, HA, HK1, HO_9, HB⟩ := hrel
   cases gk with
   | zero => exact absurd HA.out (by simp [expr_Expr_Size.l0])
   | succ k1 =>
    have H := HA.out
    clear HA
    simp only [expr_Expr_Size.l0] at H
    replace H := iD H
    rcases H with ⟨c6b0, H⟩ | ⟨c6b0, H⟩
    ·by_cases c7 : 0 ≤ x11_1
     ·rw [if_pos c7] at H
      have c7b0 := decide_eq_true c7
      clear c7
      replace H := iD H
      rcases H with ⟨c8b0, H⟩ | ⟨c8b0, H⟩
      ·by_cases c9 : (rd t721 x11_1) > 8
       ·rw [if_pos c9] at H
        have c9b0 := decide_eq_true c9
        clear c9
        obtain rfl := Option.some.inj H
        have p724 : 0 ≤ (x11_1 : Int) := qD
        have q724 : x11_1 < (t721.length : Int) := qD
        obtain ⟨ad724, e724, hx724_0⟩ := Kd.at_int (Kd.R_reads' HO_9.out).2.2 x11_1 p724 q724
        cases e724
        replace p724 := eq_true p724
        replace q724 := eq_true q724
        go_wp2
        go_ret
        exact ⟨qR, qB⟩
       ·rw [if_neg c9] at H
        have c9b0 := decide_eq_false c9
        clear c9
        have H' := Aside0.mk H
        clear H
        have p724 : 0 ≤ (x11_1 : Int) := qD
        have q724 : x11_1 < (t721.length : Int) := qD
        obtain ⟨ad724, e724, hx724_0⟩ := Kd.at_int (Kd.R_reads' HO_9.out).2.2 x11_1 p724 q724
        cases e724
        replace p724 := eq_true p724
        replace q724 := eq_true q724
        go_wp2
        go_roundg k1
        case measure => have := HK1.out; omega
        case rel => exact ⟨(wrap64 (x11_1 + 1)), (by first | rfl | (simp; done) | (simp [*]; done)), H', ⟨by have := HK1.out; omega⟩, ⟨by (with_reducible repeat (first | apply Kd.R_alloc | apply Kd.R_drewN | apply Kd.R_drew)); exact HO_9.out⟩, ⟨qB⟩⟩
      ·exact absurd H (by simp)
     ·rw [if_neg c7] at H
      exact absurd H (by simp)
    ·obtain rfl := Option.some.inj H
     go_wp2
     go_ret
     exact ⟨qR, qB⟩
end Go.Proofs.YtbngfhlciebeeaaDoor.L
end
section
namespace Go.Proofs.YtbngfhlciebeeaaDoor.L
set_option linter.unusedVariables false
open Go.RowKit Go.Proofs.YtbngfhlciebeeaaDoorW.PrintWords Go.Proofs.YtbngfhlciebeeaaDoorW.PrintLast Go.Proofs.YtbngfhlciebeeaaDoorW.PrintMore
theorem tell2 {P : Program} {c : Code} {Q : Exit → Act → World → Prop} {a : Act} {W : World} (w0 : World) (g g' : Nat) (o o' : Obj) (h1 : W.heap[g]? = some o) (h2 : W.heap[g']? = some o') (hb : Below w0.heap.size w0 W)
    (k : ∀ W', W'.heap[g]? = some o → W'.heap[g']? = some o' → Below w0.heap.size w0 W' → Code.wp P c Q a W') : Code.wp P c Q a W := k W h1 h2 hb
theorem blk_pl {w : World} {g : Nat} {t : TypeId} {cs : List Value} {i : Nat} {u : Value} (h : w.heap[g]? = some (.cells cs.toArray t (0, 0))) : (w.setCell ⟨g, i, none⟩ u).heap[g]? = some (.cells (cs.set i u).toArray t (0, 0)) :=
  blk_pu h (by simp)
theorem blk_is {W : World} {g : Nat} {t : TypeId} {cs cs' : List Value} (h : W.heap[g]? = some (.cells cs.toArray t (0, 0))) (e : cs = cs') : W.heap[g]? = some (.cells cs'.toArray t (0, 0)) := e ▸ h
end Go.Proofs.YtbngfhlciebeeaaDoor.L
end
section
namespace Go.Proofs.YtbngfhlciebeeaaDoor.L
set_option linter.unusedVariables false
open Go.RowKit Go.Proofs.YtbngfhlciebeeaaDoorW.PrintWords Go.Proofs.YtbngfhlciebeeaaDoorW.PrintLast Go.Proofs.YtbngfhlciebeeaaDoorW.PrintMore
theorem eq_nil_isEmpty (l : List UInt8) : (l == ([] : List UInt8)) = l.isEmpty := by cases l <;> rfl
end Go.Proofs.YtbngfhlciebeeaaDoor.L
end
section
namespace Go.Proofs.YtbngfhlciebeeaaDoor.L
open Go.RowKit Go.Proofs.YtbngfhlciebeeaaDoorW.PrintWords Go.Proofs.YtbngfhlciebeeaaDoorW.PrintLast Go.Proofs.YtbngfhlciebeeaaDoorW.PrintMore
attribute [local go_sem] max2_int min2_int max_two min_two max_three min_three max_four min_four   -- for this text's walks alone
set_option linter.unusedVariables false
set_option linter.unusedSimpArgs false
theorem eqA103 (d : Nat) (w : World) (x0 y0 : Int) (x1 y1 : Int) (x2 y2 : ByteArray) :
    (Op.equalIn (d + 2) 103 (.agg #[.int .i64 x0, .int .i64 x1, .string x2]) (.agg #[.int .i64 y0, .int .i64 y1, .string y2])).run Tryd.prog w = .ok (x0 == y0 && (x1 == y1 && (x2.toList == y2.toList))) w := by
  refine eqA_of Tryd.underlying103 (by kernel_rfl) ?_
  refine eqf_cons (by rfl) (by go_simp; rfl) (by go_simp; rfl) (by go_simp) ?_
  refine eqf_cons (by rfl) (by go_simp; rfl) (by go_simp; rfl) (by go_simp) ?_
  exact eqf_last (by rfl) (by go_simp; rfl) (by go_simp; rfl) (by go_simp)
end Go.Proofs.YtbngfhlciebeeaaDoor.L
end
section
namespace Go.Proofs.YtbngfhlciebeeaaDoor.L
open Go.RowKit Go.Proofs.YtbngfhlciebeeaaDoorW.PrintWords Go.Proofs.YtbngfhlciebeeaaDoorW.PrintLast Go.Proofs.YtbngfhlciebeeaaDoorW.PrintMore
attribute [local go_sem] max2_int min2_int max_two min_two max_three min_three max_four min_four   -- for this text's walks alone
set_option linter.unusedVariables false
set_option linter.unusedSimpArgs false
theorem eqA156 (d : Nat) (w : World) (x0 y0 : Int) (x1 y1 : Int) (x2 y2 : Int) (x3 y3 : ByteArray) (x4 y4 : ByteArray) (x5 y5 : Int) (x6 y6 : Int) :
    (Op.equalIn (d + 3) 156 (.agg #[.int .i64 x0, .int .i64 x1, .int .i64 x2, .string x3, .string x4, .int .i64 x5, .int .i64 x6]) (.agg #[.int .i64 y0, .int .i64 y1, .int .i64 y2, .string y3, .string y4, .int .i64 y5, .int .i64 y6])).run Tryd.prog w = .ok (x0 == y0 && ((x1 == y1 && (x2 == y2 && (x3.toList == y3.toList))) && (x4.toList == y4.toList && (x5 == y5 && (x6 == y6))))) w := by
  refine eqA_of Tryd.underlying156 (by kernel_rfl) ?_
  refine eqf_cons (by rfl) (by go_simp; rfl) (by go_simp; rfl) (by go_simp) ?_
  refine eqf_cons (by rfl) (by go_simp) (by go_simp) (eqA103 (d + 0) w _ _ _ _ _ _) ?_
  refine eqf_cons (by rfl) (by go_simp; rfl) (by go_simp; rfl) (by go_simp) ?_
  refine eqf_cons (by rfl) (by go_simp; rfl) (by go_simp; rfl) (by go_simp) ?_
  exact eqf_last (by rfl) (by go_simp; rfl) (by go_simp; rfl) (by go_simp)
end Go.Proofs.YtbngfhlciebeeaaDoor.L
end
section
namespace Go.Proofs.YtbngfhlciebeeaaDoor.L
open Go.RowKit Go.Proofs.YtbngfhlciebeeaaDoorW.PrintWords Go.Proofs.YtbngfhlciebeeaaDoorW.PrintLast Go.Proofs.YtbngfhlciebeeaaDoorW.PrintMore
attribute [local go_sem] max2_int min2_int max_two min_two max_three min_three max_four min_four   -- for this text's walks alone
set_option linter.unusedVariables false
set_option linter.unusedSimpArgs false
def val_Value_Right.f (a0_0 : Int) (a0_1 : Int) (a0_2 : ByteArray) : Option (Bool) := if a0_0 = 1 then (some (a0_2.toList == ([] : List UInt8))) else (if a0_0 = 2 then (if a0_2.toList = ([] : List UInt8) then (if a0_1 = 0 then (some true) else (some (a0_1 == 1))) else (some false)) else (if a0_0 = 3 then (if a0_1 = 0 then ((val_Plain.f a0_2).bind fun t772 => (some t772)) else (some false)) else (some false)))
set_option maxHeartbeats 8000000 in
set_option maxRecDepth 100000 in
theorem val_Value_Right.calls (a0_0 : Int) (a0_1 : Int) (a0_2 : ByteArray) (r : Bool) (w : World) (h : val_Value_Right.f a0_0 a0_1 a0_2 = some r) :
  Calls Tryd.prog 66 #[.agg #[.int .i64 a0_0, .int .i64 a0_1, .string a0_2]] w fun e w' => e = .returned (.bool r) ∧ Below w.heap.size w w' := by
 have hu103 := Tryd.underlying103
 have HB := Aside0.mk (Below.refl w.heap.size w)
 have H : (if a0_0 = 1 then (some (a0_2.toList == ([] : List UInt8))) else (if a0_0 = 2 then (if a0_2.toList = ([] : List UInt8) then (if a0_1 = 0 then (some true) else (some (a0_1 == 1))) else (some false)) else (if a0_0 = 3 then (if a0_1 = 0 then ((val_Plain.f a0_2).bind fun t772 => (some t772)) else (some false)) else (some false)))) = some r := h
 clear h
 by_cases c2 : a0_0 = 1
 ·rw [if_pos c2] at H
  have c2b0 := beq_iff_eq.mpr c2
  have c2b1 := bne_eq_false_iff_eq.mpr c2
  clear c2
  obtain rfl := Option.some.inj H
  go_enter Tryd.func66, Tryd.ntmps66
  go_wp2_with (first | ((with_reducible refine gd 1 rfl ?_); refine bx 1 #[.int .i64 a0_0, .int .i64 a0_1, .string a0_2] 103 ?_; intro gb771 hg w3 hbox hb; have BK771 := Aside0.mk (hbox); have GW771 := geS hg; have GE771 := geS hg; replace HB := bst hb; clear hb hbox hg; obtain ⟨hcz4_0, hcz4_1, hcz4_2, hfz4_0, hfz4_1, hfz4_2⟩ := cells3 BK771.out))
  go_ret
  exact ⟨qR, qB⟩
 ·rw [if_neg c2] at H
  have c2b0 := beq_eq_false_iff_ne.mpr c2
  have c2b1 := bne_iff_ne.mpr c2
  by_cases c5 : a0_0 = 2
  ·rw [if_pos c5] at H
   have c5b0 := beq_iff_eq.mpr c5
   have c5b1 := bne_eq_false_iff_eq.mpr c5
   clear c5
   by_cases c6 : a0_2.toList = ([] : List UInt8)
   ·rw [if_pos c6] at H
    have c6b0 := beq_iff_eq.mpr c6
    have c6b1 := bne_eq_false_iff_eq.mpr c6
    clear c6
    by_cases c7 : a0_1 = 0
    ·rw [if_pos c7] at H
     have c7b0 := beq_iff_eq.mpr c7
     have c7b1 := bne_eq_false_iff_eq.mpr c7
     clear c7
     obtain rfl := Option.some.inj H
     go_enter Tryd.func66, Tryd.ntmps66
     go_wp2_with (first | ((with_reducible refine gd 1 rfl ?_); refine bx 1 #[.int .i64 a0_0, .int .i64 a0_1, .string a0_2] 103 ?_; intro gb771 hg w8 hbox hb; have BK771 := Aside0.mk (hbox); have GW771 := geS hg; have GE771 := geS hg; replace HB := bst hb; clear hb hbox hg; obtain ⟨hcz9_0, hcz9_1, hcz9_2, hfz9_0, hfz9_1, hfz9_2⟩ := cells3 BK771.out))
     go_ret
     exact ⟨qR, qB⟩
    ·rw [if_neg c7] at H
     have c7b0 := beq_eq_false_iff_ne.mpr c7
     have c7b1 := bne_iff_ne.mpr c7
     obtain rfl := Option.some.inj H
     go_enter Tryd.func66, Tryd.ntmps66
     go_wp2_with (first | ((with_reducible refine gd 1 rfl ?_); refine bx 1 #[.int .i64 a0_0, .int .i64 a0_1, .string a0_2] 103 ?_; intro gb771 hg w10 hbox hb; have BK771 := Aside0.mk (hbox); have GW771 := geS hg; have GE771 := geS hg; replace HB := bst hb; clear hb hbox hg; obtain ⟨hcz11_0, hcz11_1, hcz11_2, hfz11_0, hfz11_1, hfz11_2⟩ := cells3 BK771.out))
     go_ret
     exact ⟨qR, qB⟩
   ·rw [if_neg c6] at H
    have c6b0 := beq_eq_false_iff_ne.mpr c6
    have c6b1 := bne_iff_ne.mpr c6
    obtain rfl := Option.some.inj H
    go_enter Tryd.func66, Tryd.ntmps66
    go_wp2_with (first | ((with_reducible refine gd 1 rfl ?_); refine bx 1 #[.int .i64 a0_0, .int .i64 a0_1, .string a0_2] 103 ?_; intro gb771 hg w12 hbox hb; have BK771 := Aside0.mk (hbox); have GW771 := geS hg; have GE771 := geS hg; replace HB := bst hb; clear hb hbox hg; obtain ⟨hcz13_0, hcz13_1, hcz13_2, hfz13_0, hfz13_1, hfz13_2⟩ := cells3 BK771.out))
    go_ret
    exact ⟨qR, qB⟩
  ·rw [if_neg c5] at H
   have c5b0 := beq_eq_false_iff_ne.mpr c5
   have c5b1 := bne_iff_ne.mpr c5
   by_cases c14 : a0_0 = 3
   ·rw [if_pos c14] at H
    have c14b0 := beq_iff_eq.mpr c14
    have c14b1 := bne_eq_false_iff_eq.mpr c14
    clear c14
    by_cases c15 : a0_1 = 0
    ·rw [if_pos c15] at H
     have c15b0 := beq_iff_eq.mpr c15
     have c15b1 := bne_eq_false_iff_eq.mpr c15
     clear c15
     replace H := Option.bind_eq_some_iff.mp H
     obtain ⟨t772, A160, H⟩ := H
     (try dsimp -simprocs only at H)
     have A16 := Aside0.mk A160
     clear A160
     obtain rfl := Option.some.inj H
     go_enter Tryd.func66, Tryd.ntmps66
     go_wp2_with (first | ((with_reducible refine gd 1 rfl ?_); refine bx 1 #[.int .i64 a0_0, .int .i64 a0_1, .string a0_2] 103 ?_; intro gb771 hg w17 hbox hb; have BK771 := Aside0.mk (hbox); have GW771 := geS hg; have GE771 := geS hg; replace HB := bst hb; clear hb hbox hg; obtain ⟨hcz18_0, hcz18_1, hcz18_2, hfz18_0, hfz18_1, hfz18_2⟩ := cells3 BK771.out) | (go_at_call 101; (with_reducible refine (val_Plain.calls a0_2 t772 _ A16.out).mono ?_); rintro e w19 ⟨rfl, hb⟩; replace BK771 := kb gb771 hb; replace HB := bst hb; (try clear hb)))
     go_ret
     exact ⟨qR, qB⟩
    ·rw [if_neg c15] at H
     have c15b0 := beq_eq_false_iff_ne.mpr c15
     have c15b1 := bne_iff_ne.mpr c15
     obtain rfl := Option.some.inj H
     go_enter Tryd.func66, Tryd.ntmps66
     go_wp2_with (first | ((with_reducible refine gd 1 rfl ?_); refine bx 1 #[.int .i64 a0_0, .int .i64 a0_1, .string a0_2] 103 ?_; intro gb771 hg w20 hbox hb; have BK771 := Aside0.mk (hbox); have GW771 := geS hg; have GE771 := geS hg; replace HB := bst hb; clear hb hbox hg; obtain ⟨hcz21_0, hcz21_1, hcz21_2, hfz21_0, hfz21_1, hfz21_2⟩ := cells3 BK771.out))
     go_ret
     exact ⟨qR, qB⟩
   ·rw [if_neg c14] at H
    have c14b0 := beq_eq_false_iff_ne.mpr c14
    have c14b1 := bne_iff_ne.mpr c14
    obtain rfl := Option.some.inj H
    go_enter Tryd.func66, Tryd.ntmps66
    go_wp2_with (first | ((with_reducible refine gd 1 rfl ?_); refine bx 1 #[.int .i64 a0_0, .int .i64 a0_1, .string a0_2] 103 ?_; intro gb771 hg w22 hbox hb; have BK771 := Aside0.mk (hbox); have GW771 := geS hg; have GE771 := geS hg; replace HB := bst hb; clear hb hbox hg; obtain ⟨hcz23_0, hcz23_1, hcz23_2, hfz23_0, hfz23_1, hfz23_2⟩ := cells3 BK771.out))
    go_ret
    exact ⟨qR, qB⟩
end Go.Proofs.YtbngfhlciebeeaaDoor.L
end
