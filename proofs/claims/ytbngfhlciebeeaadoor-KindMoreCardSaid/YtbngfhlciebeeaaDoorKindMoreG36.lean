/- Printed and hand-written steps towards the row (KindMore), those that it reaches. -/
import Derived.Test.YtbngfhlciebeeaaDoorKindMoreG4
import Derived.Test.YtbngfhlciebeeaaDoorKindMoreG5
import Derived.Test.YtbngfhlciebeeaaDoorKindMoreG21
import Derived.Test.YtbngfhlciebeeaaDoorKindMoreG32
import Derived.Test.YtbngfhlciebeeaaDoorKindMoreLxf51
import Derived.KernelRfl
import Derived.Test.YtbngfhlciebeeaaDoorKindMoreG33
import Derived.Test.YtbngfhlciebeeaaDoorKindMoreG28
section
namespace Go.Proofs.YtbngfhlciebeeaaDoor.L
open Go.RowKit Go.Proofs.YtbngfhlciebeeaaDoorW.PrintWords Go.Proofs.YtbngfhlciebeeaaDoorW.PrintLast Go.Proofs.YtbngfhlciebeeaaDoorW.PrintMore
attribute [local go_sem] max2_int min2_int max_two min_two max_three min_three max_four min_four   -- for this text's walks alone
set_option linter.unusedVariables false
set_option linter.unusedSimpArgs false
def whirligiglaw04_vars.l0 : Nat → List (S118) → List (S151) → List (S118) → Int → Int → Option ((List (S151)) × Bool)
 | 0, _, _, _, _, _ => none
 | k + 1, x0, x4, x7, x8, x9 => if x9 < x8 then (if 0 ≤ x9 then (if x9 < (x7.length : Int) then (if ((rd_T118 x7 x9).f1) < 1 then (some (([] : List (S151)), false)) else (if ((rd_T118 x7 x9).f1) > 3 then (some (([] : List (S151)), false)) else (if x4.length < 5864062014805 then (whirligiglaw04_vars.l0 k x0 (x4 ++ [(⟨(rd_T118 x7 x9).f0, (rd_T118 x7 x9).f1⟩ : S151)]) x7 x8 (wrap64 (x9 + 1))) else (none)))) else (none)) else (none)) else (some (x4, decide ((x0.length : Int) ≤ 100)))
def whirligiglaw04_vars.f (k : Nat) (l0 : List (S118)) : Option ((List (S151)) × Bool) := whirligiglaw04_vars.l0 k l0 ([] : List (S151)) l0 (l0.length : Int) 0
set_option maxHeartbeats 8000000 in
set_option maxRecDepth 100000 in
theorem whirligiglaw04_vars.calls (k : Nat) (A0 : Option Addr) (c0 : Nat) (l0 : List (S118)) (r1 : List (S151)) (r2 : Bool) (w : World) (hr0 : Kd.C k118 w A0 l0.length l0) (hc0 : l0.length ≤ c0) (h : whirligiglaw04_vars.f k l0 = some (r1, r2)) :
  Calls Tryd.prog 52 #[.slice A0 l0.length c0] w fun e w' => ∃ v0_ : Value, e = .returned (.tuple #[v0_, .bool r2]) ∧ Kd.R k151 151 w' w.heap.size (fun _ => True) v0_ r1 ∧ Below w.heap.size w w' := by
 have hu118 := Tryd.underlying118
 have HR0 := Aside0.mk hr0
 have HC0 := Aside0.mk hc0
 clear hr0 hc0
 have HB := Aside0.mk (Below.refl w.heap.size w)
 have H : (whirligiglaw04_vars.l0 k l0 ([] : List (S151)) l0 (l0.length : Int) 0) = some (r1, r2) := h
 clear h
 have H' := Aside0.mk H
 clear H
 go_enter Tryd.func52, Tryd.ntmps52
 go_wp2
 go_loopg [4, 9] k (fun kq v4 v9 w' => ∃ (x4_1 : List (S151)) (x9_1 : Int), v9 = .int .i64 x9_1 ∧ Aside0 (whirligiglaw04_vars.l0 kq l0 x4_1 l0 (l0.length : Int) x9_1 = some (r1, r2)) ∧ Aside0 (kq ≤ k) ∧ Aside0 (Kd.R k151 151 w' w.heap.size (fun _ => True) v4 x4_1) ∧ Aside0 (Below w.heap.size w w'))
 case atStart => exact ⟨(([] : List (S151))), (0), (by first | rfl | (simp; done) | (simp [*]; done)), H', ⟨Nat.le_refl _⟩, ⟨by first | exact Kd.R_nil _ _ _ _ _ | exact Kd.N_nil _ _ _ _ _ | exact Kd.V_nil _ _ _ _ _ | exact Kd.Q_nil _ _ _ _ _ | exact Kd.S_nil _ _ _ _ _⟩, ⟨qB⟩⟩
 case round =>
  clear H'
  obtain ⟨x4_1, x9_1, rfl, HA, HK1, HO_4, HB⟩ := hrel
  cases gk with
  | zero => exact absurd HA.out (by simp [whirligiglaw04_vars.l0])
  | succ k1 =>
   have H := HA.out
   clear HA
   simp only [whirligiglaw04_vars.l0] at H
   replace H := iD H
   rcases H with ⟨c2b0, H⟩ | ⟨c2b0, H⟩
   ·by_cases c3 : 0 ≤ x9_1
    ·rw [if_pos c3] at H
     have c3b0 := decide_eq_true c3
     clear c3
     replace H := iD H
     rcases H with ⟨c4b0, H⟩ | ⟨c4b0, H⟩
     ·by_cases c5 : ((rd_T118 l0 x9_1).f1) < 1
      ·rw [if_pos c5] at H
       have c5b0 := decide_eq_true c5
       clear c5
       simp only [Option.some.injEq, Prod.mk.injEq] at H
       obtain ⟨rfl, rfl⟩ := H
       have p828 : 0 ≤ (x9_1 : Int) := qD
       have q828 : x9_1 < (l0.length : Int) := qD
       obtain ⟨ad828, e828, hx828_0, hx828_1⟩ := at_T118 (Kd.C_below HR0.out HB.out) x9_1 p828 q828
       cases e828
       replace p828 := eq_true p828
       replace q828 := eq_true q828
       go_wp2_with (first | ((with_reducible refine gd 6 rfl ?_); refine bx 6 #[.string (⟨#[]⟩ : ByteArray), .int .i64 0] 118 ?_; intro gb829 hg w6 hbox hb; have BK829 := Aside0.mk (hbox); have GW829 := geS hg; have GE829 := geS hg; replace HO_4 := rb HO_4 hb; replace HB := bst hb; clear hb hbox hg; obtain ⟨hcz7_0, hcz7_1, hfz7_0, hfz7_1⟩ := cells2 BK829.out))
       go_ret2
       exact ⟨_, qR, by first | exact Kd.R_nil _ _ _ _ _ | exact Kd.N_nil _ _ _ _ _ | exact Kd.V_nil _ _ _ _ _ | exact Kd.Q_nil _ _ _ _ _ | exact Kd.S_nil _ _ _ _ _, qB⟩
      ·rw [if_neg c5] at H
       have c5b0 := decide_eq_false c5
       clear c5
       replace H := iD H
       rcases H with ⟨c8b0, H⟩ | ⟨c8b0, H⟩
       ·simp only [Option.some.injEq, Prod.mk.injEq] at H
        obtain ⟨rfl, rfl⟩ := H
        have p828 : 0 ≤ (x9_1 : Int) := qD
        have q828 : x9_1 < (l0.length : Int) := qD
        obtain ⟨ad828, e828, hx828_0, hx828_1⟩ := at_T118 (Kd.C_below HR0.out HB.out) x9_1 p828 q828
        cases e828
        replace p828 := eq_true p828
        replace q828 := eq_true q828
        go_wp2_with (first | ((with_reducible refine gd 6 rfl ?_); refine bx 6 #[.string (⟨#[]⟩ : ByteArray), .int .i64 0] 118 ?_; intro gb829 hg w9 hbox hb; have BK829 := Aside0.mk (hbox); have GW829 := geS hg; have GE829 := geS hg; replace HO_4 := rb HO_4 hb; replace HB := bst hb; clear hb hbox hg; obtain ⟨hcz10_0, hcz10_1, hfz10_0, hfz10_1⟩ := cells2 BK829.out))
        go_ret2
        exact ⟨_, qR, by first | exact Kd.R_nil _ _ _ _ _ | exact Kd.N_nil _ _ _ _ _ | exact Kd.V_nil _ _ _ _ _ | exact Kd.Q_nil _ _ _ _ _ | exact Kd.S_nil _ _ _ _ _, qB⟩
       ·by_cases c11 : x4_1.length < 5864062014805
        ·rw [if_pos c11] at H
         have LMc11 := Aside0.mk c11
         clear c11
         obtain ⟨y830, hy830⟩ : ∃ y_ : List (S151), y_ = (x4_1 ++ [(⟨(rd_T118 l0 x9_1).f0, (rd_T118 l0 x9_1).f1⟩ : S151)]) := ⟨_, rfl⟩
         replace H : (whirligiglaw04_vars.l0 k1 l0 y830 l0 (l0.length : Int) (wrap64 (x9_1 + 1))) = some (r1, r2) := by first | (rw [hy830]; with_reducible exact H) | (have H2_ := (Option.bind_some _ _).symm.trans H; rw [hy830]; with_reducible exact H2_) | (have H2_ := (Option.bind_some _ _).symm.trans H; with_reducible exact H2_) | with_reducible exact H | (rw [hy830]; exact H) | exact H
         have Ny830 := Aside0.mk hy830
         clear hy830
         have H' := Aside0.mk H
         clear H
         have p828 : 0 ≤ (x9_1 : Int) := qD
         have q828 : x9_1 < (l0.length : Int) := qD
         obtain ⟨ad828, e828, hx828_0, hx828_1⟩ := at_T118 (Kd.C_below HR0.out HB.out) x9_1 p828 q828
         cases e828
         replace p828 := eq_true p828
         replace q828 := eq_true q828
         go_wp2_with (first | ((with_reducible refine gd 6 rfl ?_); refine bx 6 #[.string (⟨#[]⟩ : ByteArray), .int .i64 0] 118 ?_; intro gb829 hg w12 hbox hb; have BK829 := Aside0.mk (hbox); have GW829 := geS hg; have GE829 := geS hg; replace HO_4 := rb HO_4 hb; replace HB := bst hb; clear hb hbox hg; obtain ⟨hcz13_0, hcz13_1, hfz13_0, hfz13_1⟩ := cells2 BK829.out) | ((with_reducible refine gate_builtin (b := .append) (xs := #[.tmp 21, .tmp 23]) rfl ?_); at_builtin; refine Kd.R_append k151 (w0 := w) w.heap.size rfl (.tmp 21) (.tmp 23) 79 151 (.agg #[(.string ⟨#[]⟩), (.int .i64 0)]) 24 rfl Tryd.underlying79 info151 rfl (by decide) (by omega) u4 x4_1 (⟨(rd_T118 l0 x9_1).f0, (rd_T118 l0 x9_1).f1⟩ : S151) [.string ((rd_T118 l0 x9_1).f0), .int .i64 ((rd_T118 l0 x9_1).f1)] (fun _ => True) (fun _ => False) rfl (by first | (go_simp; done) | (go_simp; rfl)) ?aP (fun _ hk => hk.elim) ?aF ?aO ?aB ?aS ?aL ?_; (case aP => exact k151_mkM _ _ _ (⟨(rd_T118 l0 x9_1).f0, (rd_T118 l0 x9_1).f1⟩ : S151)); (case aB => exact qB); (case aF => exact (fun _ _ => trivial)); (case aO => exact (by (with_reducible repeat (first | apply Kd.R_alloc | apply Kd.R_drewN | apply Kd.R_drew)); exact Kd.R_mono (Kd.R_far (p := ⟨gb829, 1, none⟩) (Kd.R_far (p := ⟨gb829, 0, none⟩) (Kd.R_types HO_4.out BK829.out (by decide)) (fun _ hk => hk.2) (.string ((rd_T118 l0 x9_1).f0))) (fun _ hk => hk.2) (.int .i64 ((rd_T118 l0 x9_1).f1))) (fun _ hk => trivial))); (case aS => exact (below_size qB)); (case aL => have := LMc11.out; omega); intro v831 w14 ho hb hg hat; rw [← Ny830.out] at ho; have n0_ := Aside0.mk (blk_grown (g := gb829) (o := .cells #[.string ((rd_T118 l0 x9_1).f0), .int .i64 ((rd_T118 l0 x9_1).f1)] 118 (0, 0)) qP hg (Kd.R_ne HO_4.out BK829.out (by decide))); have n1_ := Aside0.mk (hb); have n2_ := Aside0.mk (ho); clear BK829; clear HB; clear HO_4; have BK829 := n0_; have HB := n1_; have HO832 := n2_; clear n0_ n1_ n2_; clear ho hb hg hat))
         go_roundg k1
         case measure => have := HK1.out; omega
         case rel => exact ⟨(y830), (wrap64 (x9_1 + 1)), (by first | rfl | (simp; done) | (simp [*]; done)), H', ⟨by have := HK1.out; omega⟩, ⟨by (with_reducible repeat (first | apply Kd.R_alloc | apply Kd.R_drewN | apply Kd.R_drew)); exact HO832.out⟩, ⟨qB⟩⟩
        ·rw [if_neg c11] at H
         exact absurd H (by simp)
     ·exact absurd H (by simp)
    ·rw [if_neg c3] at H
     exact absurd H (by simp)
   ·simp only [Option.some.injEq, Prod.mk.injEq] at H
    obtain ⟨rfl, rfl⟩ := H
    go_wp2
    go_ret2
    exact ⟨_, qR, by (with_reducible repeat (first | apply Kd.R_alloc | apply Kd.R_drewN | apply Kd.R_drew)); exact HO_4.out, qB⟩
end Go.Proofs.YtbngfhlciebeeaaDoor.L
end
section
namespace Go.Proofs.YtbngfhlciebeeaaDoor.Sp
set_option linter.unusedVariables false
set_option linter.unusedSimpArgs false
open Go.RowKit Go.Proofs.YtbngfhlciebeeaaDoorW.PrintWords Go.Proofs.YtbngfhlciebeeaaDoorW.PrintMore Go.Proofs.YtbngfhlciebeeaaDoor.L
theorem rd118 {l : List S118} {j : Nat} (h : j < l.length) : rd_T118 l (j : Int) = l[j] := by
  unfold rd_T118
  rw [Int.toNat_natCast, List.getD_eq_getElem?_getD, List.getElem?_eq_getElem h]
  rfl
theorem anchor04_ev : Ev (fun k => whirligiglaw04_anchor.f k) true := ⟨100, fun k hk => by
  obtain ⟨j, rfl⟩ : ∃ j, k = j + 100 := ⟨k - 100, by omega⟩
  kernel_rfl⟩
end Go.Proofs.YtbngfhlciebeeaaDoor.Sp
end
section
namespace Go.Proofs.YtbngfhlciebeeaaDoor.Sp
set_option linter.unusedVariables false
set_option linter.unusedSimpArgs false
open Go.RowKit Go.Proofs.YtbngfhlciebeeaaDoorW.PrintWords Go.Proofs.YtbngfhlciebeeaaDoorW.PrintMore Go.Proofs.YtbngfhlciebeeaaDoor.L
theorem vars04_is_l0 (l : List S118) (hl : l.length ≤ 5864062014634) : ∀ (d j : Nat), j ≤ l.length → l.length - j = d → (∀ x ∈ l.take j, 1 ≤ x.f1 ∧ x.f1 ≤ 3) →
    ∃ r, Ev (fun k => whirligiglaw04_vars.l0 k l ((l.take j).map v151) l (l.length : Int) (j : Int)) r ∧ (r.2 = true → r.1 = l.map v151 ∧ l.length ≤ 100 ∧ ∀ x ∈ l, 1 ≤ x.f1 ∧ x.f1 ≤ 3) := by
  intro d
  induction d with
  | zero =>
    intro j hj hd hx
    rw [List.take_of_length_le (by omega)] at hx ⊢
    refine ⟨(l.map v151, decide ((l.length : Int) ≤ 100)), Ev.succ ?_, ?_⟩
    · simp only [whirligiglaw04_vars.l0]
      exact Ev.neg (by omega) (Ev.some rfl)
    · intro h
      have := of_decide_eq_true h
      exact ⟨rfl, by omega, hx⟩
  | succ d ih =>
    intro j hj hd hx
    have hjl : j < l.length := by omega
    by_cases g1 : l[j].f1 < 1
    · refine ⟨([], false), Ev.succ ?_, fun h => by cases h⟩
      simp only [whirligiglaw04_vars.l0]
      rw [rd118 hjl]
      exact Ev.pos (by omega) (Ev.pos (by omega) (Ev.pos (by omega) (Ev.pos g1 (Ev.some rfl))))
    by_cases g2 : l[j].f1 > 3
    · refine ⟨([], false), Ev.succ ?_, fun h => by cases h⟩
      simp only [whirligiglaw04_vars.l0]
      rw [rd118 hjl]
      exact Ev.pos (by omega) (Ev.pos (by omega) (Ev.pos (by omega) (Ev.neg g1 (Ev.pos g2 (Ev.some rfl)))))
    obtain ⟨r, hr, hi⟩ := ih (j + 1) (by omega) (by omega) (fun x hm => by
      rw [List.take_add_one, List.getElem?_eq_getElem hjl] at hm
      rcases List.mem_append.1 hm with hm | hm
      · exact hx x hm
      · obtain rfl : x = l[j] := by simpa using hm
        omega)
    rw [List.take_add_one, List.getElem?_eq_getElem hjl, List.map_append] at hr
    refine ⟨r, Ev.succ ?_, hi⟩
    simp only [whirligiglaw04_vars.l0]
    rw [rd118 hjl, up1 (by omega)]
    exact Ev.pos (by omega) (Ev.pos (by omega) (Ev.pos (by omega) (Ev.neg g1 (Ev.neg g2 (Ev.pos (by rw [List.length_map, List.length_take]; omega) hr)))))
theorem vars04_is (l : List S118) (hl : l.length * 24 ≤ 140737488351232) : ∃ r, Ev (fun k => whirligiglaw04_vars.f k l) r ∧ (r.2 = true → r.1 = l.map v151 ∧ l.length ≤ 100 ∧ ∀ x ∈ l, 1 ≤ x.f1 ∧ x.f1 ≤ 3) := by
  obtain ⟨r, h, h'⟩ := vars04_is_l0 l (by omega) l.length 0 (by omega) (by omega) (by simp)
  refine ⟨r, ?_, h'⟩
  unfold whirligiglaw04_vars.f
  exact h
end Go.Proofs.YtbngfhlciebeeaaDoor.Sp
end
section
namespace Go.Proofs.YtbngfhlciebeeaaDoor.L
set_option linter.unusedVariables false
open Go.RowKit Go.Proofs.YtbngfhlciebeeaaDoorW.PrintWords Go.Proofs.YtbngfhlciebeeaaDoorW.PrintLast Go.Proofs.YtbngfhlciebeeaaDoorW.PrintMore
theorem rH {p q : Prop} (h : Aside0 q) (k : q → p := by intro h_; (with_reducible repeat (first | apply Kd.R_alloc | apply Kd.R_drewN | apply Kd.R_drew)); exact h_) : p := k h.out
section
variable {P : Program} {ops : Array Oper} {Q : Exit → Act → World → Prop} {md : Region.Mode} {S : World → Prop} {ds : List Nat} {fuel : Nat} {l : Array Bool} {a a' : Act} {w : World}
theorem nq (h : wpAnyLast P md ops Q S ds fuel l a' w) (ha : a = a' := by first | (simp only [putAll, Act.put, List.setIfInBounds_toArray, List.set_cons_zero, List.set_cons_succ]; done) | (simp only [putAll, Act.put, List.setIfInBounds_toArray, List.set_cons_zero, List.set_cons_succ]; rfl)) : wpAnyLast P md ops Q S ds fuel l a w := norm_ ha h
end
theorem c22 {w : World} {g g' t t' : Nat} {a b c d : Value} (h : Aside0 (w.heap[g]? = some (.cells #[a, b] t (0, 0)))) (h' : Aside0 (w.heap[g']? = some (.cells #[c, d] t' (0, 0)))) : w.cell? ⟨g, 0, none⟩ = some a ∧ w.cell? ⟨g, 1, none⟩ = some b ∧ w.cell? ⟨g', 0, none⟩ = some c ∧ w.cell? ⟨g', 1, none⟩ = some d := ⟨blk_cell h.out 0, blk_cell h.out 1, blk_cell h'.out 0, blk_cell h'.out 1⟩
end Go.Proofs.YtbngfhlciebeeaaDoor.L
end
