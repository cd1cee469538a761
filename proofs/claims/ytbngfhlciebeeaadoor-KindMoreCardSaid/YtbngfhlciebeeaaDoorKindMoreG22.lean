/- Printed and hand-written steps towards the row (KindMore), those that it reaches. -/
import Derived.Test.YtbngfhlciebeeaaDoorKindMoreG4
import Derived.Test.YtbngfhlciebeeaaDoorKindMoreG5
import Derived.Test.YtbngfhlciebeeaaDoorKindMoreG13
import Derived.Test.YtbngfhlciebeeaaDoorKindMoreG12
import Derived.KernelRfl
section
namespace Go.Proofs.YtbngfhlciebeeaaDoor.L
open Go.RowKit Go.Proofs.YtbngfhlciebeeaaDoorW.PrintWords Go.Proofs.YtbngfhlciebeeaaDoorW.PrintLast Go.Proofs.YtbngfhlciebeeaaDoorW.PrintMore
attribute [local go_sem] max2_int min2_int max_two min_two max_three min_three max_four min_four   -- for this text's walks alone
set_option linter.unusedVariables false
set_option linter.unusedSimpArgs false
mutual
def tok_Token_Is.j0 : Nat → List ByteArray → Bool → Int → ByteArray → Int → Int → Option (Bool)
 | 0, _, _, _, _, _, _ => none
 | k + 1, x1, x14, x247000, x247001, x247002, x247003 => if x14 = true then (some false) else (tok_Token_Is.l0 k x1 (x1.length : Int) 0 x247000 x247001 x247002 x247003)
def tok_Token_Is.l0 : Nat → List ByteArray → Int → Int → Int → ByteArray → Int → Int → Option (Bool)
 | 0, _, _, _, _, _, _, _ => none
 | k + 1, x15, x16, x17, x247000, x247001, x247002, x247003 => if x17 < x16 then (if 0 ≤ x17 then (if x17 < (x15.length : Int) then (if x247001.toList = (rdOf ByteArray.empty x15 x17).toList then (some true) else (tok_Token_Is.l0 k x15 x16 (wrap64 (x17 + 1)) x247000 x247001 x247002 x247003)) else (none)) else (none)) else (some false)
end
def tok_Token_Is.f (k : Nat) (a0_0 : Int) (a0_1 : ByteArray) (a0_2 : Int) (a0_3 : Int) (l1 : List ByteArray) : Option (Bool) := if a0_0 = 1 then (tok_Token_Is.j0 k l1 false a0_0 a0_1 a0_2 a0_3) else (tok_Token_Is.j0 k l1 (a0_0 != 5) a0_0 a0_1 a0_2 a0_3)
set_option maxHeartbeats 8000000 in
set_option maxRecDepth 100000 in
theorem tok_Token_Is.calls (k : Nat) (a0_0 : Int) (a0_1 : ByteArray) (a0_2 : Int) (a0_3 : Int) (A1 : Option Addr) (c1 : Nat) (l1 : List ByteArray) (r : Bool) (w : World) (hr1 : Kd.C Kd.string w A1 l1.length l1) (hc1 : l1.length ≤ c1) (h : tok_Token_Is.f k a0_0 a0_1 a0_2 a0_3 l1 = some r) :
  Calls Tryd.prog 23 #[.agg #[.int .i64 a0_0, .string a0_1, .int .i64 a0_2, .int .i64 a0_3], .slice A1 l1.length c1] w fun e w' => e = .returned (.bool r) ∧ Below w.heap.size w w' := by
 have hu32 := Tryd.underlying32
 have HR1 := Aside0.mk hr1
 have HC1 := Aside0.mk hc1
 clear hr1 hc1
 have HB := Aside0.mk (Below.refl w.heap.size w)
 have H : (if a0_0 = 1 then (tok_Token_Is.j0 k l1 false a0_0 a0_1 a0_2 a0_3) else (tok_Token_Is.j0 k l1 (a0_0 != 5) a0_0 a0_1 a0_2 a0_3)) = some r := h
 clear h
 have HC3 := Aside0.mk H
 clear H
 go_enter Tryd.func23, Tryd.ntmps23
 go_upto_region 1 with (first | ((with_reducible refine gd 2 rfl ?_); refine bx 2 #[.int .i64 a0_0, .string a0_1, .int .i64 a0_2, .int .i64 a0_3] 32 ?_; intro gb246 hg w4 hbox hb; have BK246 := Aside0.mk (hbox); have GW246 := geS hg; have GE246 := geS hg; replace HB := bst hb; clear hb hbox hg))
 (try simp only [Act.put, List.setIfInBounds_toArray, List.set_cons_zero, List.set_cons_succ])
 go_cut [14] (fun v14 wc => ∃ (kq : Nat) (x14_2 : Bool), v14 = .bool x14_2 ∧ Aside0 (tok_Token_Is.j0 kq l1 x14_2 a0_0 a0_1 a0_2 a0_3 = some r) ∧ Aside0 (kq ≤ k) ∧ Aside0 (wc.heap[gb246]? = some (.cells #[.int .i64 a0_0, .string a0_1, .int .i64 a0_2, .int .i64 a0_3] 32 (0, 0))) ∧ Aside0 (Below w.heap.size w wc))
 case first =>
  have H := HC3.out
  clear HC3
  by_cases c5 : a0_0 = 1
  ·rw [if_pos c5] at H
   have c5b0 := beq_iff_eq.mpr c5
   have c5b1 := bne_eq_false_iff_eq.mpr c5
   clear c5
   (first | rw [c5b0] | (simp only [i64_w, i32_w]; rw [c5b0]) | skip)
   have H' := Aside0.mk H
   clear H
   obtain ⟨hcz6_0, hcz6_1, hcz6_2, hcz6_3, hfz6_0, hfz6_1, hfz6_2, hfz6_3⟩ := cells4 BK246.out
   go_wp2
   go_meet
   case rel => exact ⟨_, (false), (by first | rfl | (simp; done) | (simp [*]; done)), H', ⟨by first | omega | exact Nat.le_refl _⟩, ⟨qK⟩, ⟨qB⟩⟩
  ·rw [if_neg c5] at H
   have c5b0 := beq_eq_false_iff_ne.mpr c5
   have c5b1 := bne_iff_ne.mpr c5
   (first | rw [c5b0] | (simp only [i64_w, i32_w]; rw [c5b0]) | skip)
   have H' := Aside0.mk H
   clear H
   obtain ⟨hcz7_0, hcz7_1, hcz7_2, hcz7_3, hfz7_0, hfz7_1, hfz7_2, hfz7_3⟩ := cells4 BK246.out
   go_wp2
   go_meet
   case rel => exact ⟨_, ((a0_0 != 5)), (by first | rfl | (simp; done) | (simp [*]; done)), H', ⟨by first | omega | exact Nat.le_refl _⟩, ⟨qK⟩, ⟨qB⟩⟩
 case rest =>
  clear HC3
  try clear c1
  try clear c2
  try clear p2
  try clear c5
  try clear c5b0
  try clear c5b1
  try clear hcz6_0 hcz6_1 hcz6_2 hcz6_3 hfz6_0 hfz6_1 hfz6_2 hfz6_3
  try clear hcz7_0 hcz7_1 hcz7_2 hcz7_3 hfz7_0 hfz7_1 hfz7_2 hfz7_3
  obtain ⟨kq, x14_2, rfl, HA, HJ2, BK246, HB⟩ := hcut
  cases kq with
  | zero => exact absurd HA.out (by simp [tok_Token_Is.j0])
  | succ kj2 =>
   have H := HA.out
   clear HA
   simp only [tok_Token_Is.j0] at H
   by_cases c8 : x14_2 = true
   ·subst c8
    rw [if_pos rfl] at H
    obtain rfl := Option.some.inj H
    go_wp2
    go_ret
    exact ⟨qR, qB⟩
   ·replace c8 := Bool.eq_false_iff.mpr c8
    subst c8
    rw [if_neg (show ¬ (false = true) by decide)] at H
    have H' := Aside0.mk H
    clear H
    go_wp2
    go_loopg [17] kj2 (fun kq v17 w' => ∃ (x17_2 : Int), v17 = .int .i64 x17_2 ∧ Aside0 (tok_Token_Is.l0 kq l1 (l1.length : Int) x17_2 a0_0 a0_1 a0_2 a0_3 = some r) ∧ Aside0 (kq ≤ kj2) ∧ Aside0 (w'.heap[gb246]? = some (.cells #[.int .i64 a0_0, .string a0_1, .int .i64 a0_2, .int .i64 a0_3] 32 (0, 0))) ∧ Aside0 (Below w.heap.size w w'))
    case atStart => exact ⟨(0), (by first | rfl | (simp; done) | (simp [*]; done)), H', ⟨Nat.le_refl _⟩, ⟨qK⟩, ⟨qB⟩⟩
    case round =>
     clear H'
     try clear c1
     try clear c2
     try clear p2 p2
     try clear c5
     try clear c5b0
     try clear c5b1
     try clear c8
     try clear hcz6_0 hcz6_1 hcz6_2 hcz6_3 hfz6_0 hfz6_1 hfz6_2 hfz6_3
     try clear hcz7_0 hcz7_1 hcz7_2 hcz7_3 hfz7_0 hfz7_1 hfz7_2 hfz7_3
     obtain ⟨x17_2, rfl, HA, HK2, BK246, HB⟩ := hrel
     cases gk with
     | zero => exact absurd HA.out (by simp [tok_Token_Is.l0])
     | succ k2 =>
      have H := HA.out
      clear HA
      simp only [tok_Token_Is.l0] at H
      replace H := iD H
      rcases H with ⟨c9b0, H⟩ | ⟨c9b0, H⟩
      ·by_cases c10 : 0 ≤ x17_2
       ·rw [if_pos c10] at H
        have c10b0 := decide_eq_true c10
        clear c10
        replace H := iD H
        rcases H with ⟨c11b0, H⟩ | ⟨c11b0, H⟩
        ·by_cases c12 : a0_1.toList = (rdOf ByteArray.empty l1 x17_2).toList
         ·rw [if_pos c12] at H
          have c12b0 := beq_iff_eq.mpr c12
          have c12b1 := bne_eq_false_iff_eq.mpr c12
          clear c12
          obtain rfl := Option.some.inj H
          have p247 : 0 ≤ (x17_2 : Int) := qD
          have q247 : x17_2 < (l1.length : Int) := qD
          obtain ⟨ad247, e247, hx247_0⟩ := Kd.at_string HR1.out x17_2 p247 q247
          cases e247
          replace hx247_0 := pw_cell_below HB.out hx247_0
          replace p247 := eq_true p247
          replace q247 := eq_true q247
          obtain ⟨hcz13_0, hcz13_1, hcz13_2, hcz13_3, hfz13_0, hfz13_1, hfz13_2, hfz13_3⟩ := cells4 BK246.out
          go_wp2
          go_ret
          exact ⟨qR, qB⟩
         ·rw [if_neg c12] at H
          have c12b0 := beq_eq_false_iff_ne.mpr c12
          have c12b1 := bne_iff_ne.mpr c12
          have H' := Aside0.mk H
          clear H
          have p247 : 0 ≤ (x17_2 : Int) := qD
          have q247 : x17_2 < (l1.length : Int) := qD
          obtain ⟨ad247, e247, hx247_0⟩ := Kd.at_string HR1.out x17_2 p247 q247
          cases e247
          replace hx247_0 := pw_cell_below HB.out hx247_0
          replace p247 := eq_true p247
          replace q247 := eq_true q247
          obtain ⟨hcz14_0, hcz14_1, hcz14_2, hcz14_3, hfz14_0, hfz14_1, hfz14_2, hfz14_3⟩ := cells4 BK246.out
          go_wp2
          go_roundg k2
          case measure => have := HJ2.out; have := HK2.out; omega
          case rel => exact ⟨(wrap64 (x17_2 + 1)), (by first | rfl | (simp; done) | (simp [*]; done)), H', ⟨by have := HJ2.out; have := HK2.out; omega⟩, ⟨qK⟩, ⟨qB⟩⟩
        ·exact absurd H (by simp)
       ·rw [if_neg c10] at H
        exact absurd H (by simp)
      ·obtain rfl := Option.some.inj H
       go_wp2
       go_ret
       exact ⟨qR, qB⟩
end Go.Proofs.YtbngfhlciebeeaaDoor.L
end
section
namespace Go.Proofs.YtbngfhlciebeeaaDoor.Sp
set_option linter.unusedVariables false
set_option linter.unusedSimpArgs false
open Go.RowKit Go.Proofs.YtbngfhlciebeeaaDoor.L Go.Proofs.YtbngfhlciebeeaaDoorW.PrintWords
def anyIs (t : ByteArray) (l : List ByteArray) : Bool := l.any fun s => s.toList == t.toList
theorem rdOf_at {α : Type} {d : α} {l : List α} {j : Nat} (h : j < l.length) : rdOf d l (j : Int) = l[j] := by
  unfold rdOf
  rw [Int.toNat_natCast, List.getD_eq_getElem?_getD, List.getElem?_eq_getElem h]; rfl
theorem is_l (l : List ByteArray) (hl : l.length ≤ 1000000) (a : Int) (b : ByteArray) (c e : Int) (d : Nat) : ∀ j, j ≤ l.length → l.length - j = d →
    Ev (fun k => tok_Token_Is.l0 k l (l.length : Int) (j : Int) a b c e) (anyIs b (l.drop j)) := by
  induction d with
  | zero =>
    intro j hj hd
    refine Ev.succ ?_
    simp only [tok_Token_Is.l0]
    refine Ev.neg (by omega) (Ev.some ?_)
    rw [List.drop_eq_nil_of_le (by omega)]; rfl
  | succ d ih =>
    intro j hj hd
    have hjl : j < l.length := by omega
    refine Ev.succ ?_
    simp only [tok_Token_Is.l0]
    refine Ev.pos (by omega) (Ev.pos (by omega) (Ev.pos (by omega) ?_))
    rw [rdOf_at hjl, List.drop_eq_getElem_cons hjl, wrap_at (by omega) (by omega)]
    unfold anyIs
    rw [List.any_cons]
    by_cases h : b.toList = (l[j]).toList
    · refine Ev.pos h (Ev.some ?_)
      rw [h, beq_self_eq_true, Bool.true_or]
    · refine Ev.neg h ?_
      rw [show ((l[j]).toList == b.toList) = false from beq_eq_false_iff_ne.2 (fun e => h e.symm), Bool.false_or]
      exact ih (j + 1) (by omega) (by omega)
theorem is_ev (l : List ByteArray) (hl : l.length ≤ 1000000) (a : Int) (b : ByteArray) (c e : Int) :
    Ev (fun k => tok_Token_Is.f k a b c e l) ((a == 1 || a == 5) && anyIs b l) := by
  have h0 := is_l l hl a b c e _ 0 (by omega) rfl
  have hj : Ev (fun k => tok_Token_Is.j0 k l false a b c e) (anyIs b l) := by
    refine Ev.succ ?_
    simp only [tok_Token_Is.j0]
    exact Ev.neg (by decide) h0
  unfold tok_Token_Is.f
  by_cases h1 : a = 1
  · refine Ev.pos h1 ?_
    subst h1
    exact hj
  · refine Ev.neg h1 ?_
    rw [show (a == 1) = false from beq_eq_false_iff_ne.2 h1, Bool.false_or]
    by_cases h5 : a = 5
    · subst h5
      exact hj
    · rw [show (a == 5) = false from beq_eq_false_iff_ne.2 h5, show (a != 5) = true from bne_iff_ne.2 h5]
      refine Ev.succ ?_
      simp only [tok_Token_Is.j0]
      exact Ev.pos trivial (Ev.some rfl)
end Go.Proofs.YtbngfhlciebeeaaDoor.Sp
end
