/- Printed and hand-written steps towards the row (KindOf), those that it reaches. -/
import Derived.Test.YtbngfhlciebeeaaDoorKindOfG4
import Derived.Test.YtbngfhlciebeeaaDoorKindOfG5
import Derived.Test.YtbngfhlciebeeaaDoorKindOfLxf92
namespace Go.Proofs.YtbngfhlciebeeaaDoor.L
open Go.RowKit Go.Proofs.YtbngfhlciebeeaaDoorW.PrintWords Go.Proofs.YtbngfhlciebeeaaDoorW.PrintLast Go.Proofs.YtbngfhlciebeeaaDoorW.PrintMore
attribute [local go_sem] max2_int min2_int max_two min_two max_three min_three max_four min_four   -- for this text's walks alone
set_option linter.unusedVariables false
set_option linter.unusedSimpArgs false
mutual
def whirligigref04_Of.l0 : Nat → Int → List (S151) → Int → Int → Int → Int → ByteArray → ByteArray → Int → Int → Option (Int × Int × Int)
 | 0, _, _, _, _, _, _, _, _, _, _ => none
 | k + 1, x1, x2, x12, x873000, x873001, x873002, x873003, x873004, x873005, x873006 => if x12 < (x2.length : Int) then (if 0 ≤ x12 then (if ((rd_T151 x2 x12).f0).toList = x873004.toList then (some ((rd_T151 x2 x12).f1, 0, 0)) else (whirligigref04_Of.l0 k x1 x2 (wrap64 (x12 + 1)) x873000 x873001 x873002 x873003 x873004 x873005 x873006)) else (none)) else (some (0, 24, x1))
def whirligigref04_Of.l1 : Nat → Int → List ByteArray → Int → Int → Int → Int → ByteArray → ByteArray → Int → Int → Option (Int × Int × Int)
 | 0, _, _, _, _, _, _, _, _, _, _ => none
 | k + 1, x1, x3, x13, x873000, x873001, x873002, x873003, x873004, x873005, x873006 => if x13 < (x3.length : Int) then (if 0 ≤ x13 then (if (rdOf ByteArray.empty x3 x13).toList = x873004.toList then (some (2, 0, 0)) else (whirligigref04_Of.l1 k x1 x3 (wrap64 (x13 + 1)) x873000 x873001 x873002 x873003 x873004 x873005 x873006)) else (none)) else (some (0, 24, x1))
def whirligigref04_Of.j2 : Nat → List (S159) → Int → List (S151) → List ByteArray → Int → Int → Int → Int → Bool → Int → Int → Int → ByteArray → ByteArray → Int → Int → Option (Int × Int × Int)
 | 0, _, _, _, _, _, _, _, _, _, _, _, _, _, _, _, _ => none
 | k + 1, x0, x1, x2, x3, x14, x15, x16, x17, x85, x873000, x873001, x873002, x873003, x873004, x873005, x873006 => if x85 = true then ((whirligigref04_Of.f k x0 x873006 x2 x3).bind fun bt879 => (whirligigref04_Of.j3 k x1 x14 bt879.2.1 bt879.2.2 bt879.1 x873000 x873001 x873002 x873003 x873004 x873005 x873006)) else (whirligigref04_Of.j3 k x1 x14 x15 x16 x17 x873000 x873001 x873002 x873003 x873004 x873005 x873006)
def whirligigref04_Of.j3 : Nat → Int → Int → Int → Int → Int → Int → Int → Int → ByteArray → ByteArray → Int → Int → Option (Int × Int × Int)
 | 0, _, _, _, _, _, _, _, _, _, _, _, _ => none
 | k + 1, x1, x14, x15, x16, x17, x873000, x873001, x873002, x873003, x873004, x873005, x873006 => if x15 = 0 then ((whirligigref01_Result.f k x873000 x14 x17).bind fun t882 => (if t882 = 0 then (some (0, 20, x1)) else (some (t882, 0, 0)))) else (some (0, x15, x16))
def whirligigref04_Of.f : Nat → List (S159) → Int → List (S151) → List ByteArray → Option (Int × Int × Int)
 | 0, _, _, _, _ => none
 | k + 1, l0, a1, l2, l3 => if 0 ≤ a1 then (if a1 < (l0.length : Int) then (if ((rd_T159 l0 a1).f0) = 0 then (some ((rd_T159 l0 a1).f1.f0, 0, 0)) else (if ((rd_T159 l0 a1).f0) = 16 then (whirligigref04_Of.l0 k a1 l2 0 ((rd_T159 l0 a1).f0) ((rd_T159 l0 a1).f1.f0) ((rd_T159 l0 a1).f1.f1) ((rd_T159 l0 a1).f1.f2) ((rd_T159 l0 a1).f2) ((rd_T159 l0 a1).f3) ((rd_T159 l0 a1).f4)) else (if ((rd_T159 l0 a1).f0) = 17 then (whirligigref04_Of.l1 k a1 l3 0 ((rd_T159 l0 a1).f0) ((rd_T159 l0 a1).f1.f0) ((rd_T159 l0 a1).f1.f1) ((rd_T159 l0 a1).f1.f2) ((rd_T159 l0 a1).f2) ((rd_T159 l0 a1).f3) ((rd_T159 l0 a1).f4)) else ((whirligigref04_Of.f k l0 ((rd_T159 l0 a1).f3) l2 l3).bind fun bt876 => (if bt876.2.1 = 0 then (whirligigref04_Of.j2 k l0 a1 l2 l3 bt876.1 bt876.2.1 bt876.2.2 0 (decide (((rd_T159 l0 a1).f0) > 2)) ((rd_T159 l0 a1).f0) ((rd_T159 l0 a1).f1.f0) ((rd_T159 l0 a1).f1.f1) ((rd_T159 l0 a1).f1.f2) ((rd_T159 l0 a1).f2) ((rd_T159 l0 a1).f3) ((rd_T159 l0 a1).f4)) else (whirligigref04_Of.j2 k l0 a1 l2 l3 bt876.1 bt876.2.1 bt876.2.2 0 false ((rd_T159 l0 a1).f0) ((rd_T159 l0 a1).f1.f0) ((rd_T159 l0 a1).f1.f1) ((rd_T159 l0 a1).f1.f2) ((rd_T159 l0 a1).f2) ((rd_T159 l0 a1).f3) ((rd_T159 l0 a1).f4))))))) else (none)) else (none)
end
set_option maxHeartbeats 8000000 in
set_option maxRecDepth 100000 in
theorem whirligigref04_Of.calls (k : Nat) : ∀ (A0 : Option Addr) (c0 : Nat) (l0 : List (S159)) (a1 : Int) (A2 : Option Addr) (c2 : Nat) (l2 : List (S151)) (A3 : Option Addr) (c3 : Nat) (l3 : List ByteArray) (r1 : Int) (r2 : Int) (r3 : Int) (w : World) (hr0 : Kd.C k159 w A0 l0.length l0) (hc0 : l0.length ≤ c0) (hr2 : Kd.C k151 w A2 l2.length l2) (hc2 : l2.length ≤ c2) (hr3 : Kd.C Kd.string w A3 l3.length l3) (hc3 : l3.length ≤ c3) (h : whirligigref04_Of.f k l0 a1 l2 l3 = some (r1, r2, r3)),
  Calls Tryd.prog 55 #[.slice A0 l0.length c0, .int .i64 a1, .slice A2 l2.length c2, .slice A3 l3.length c3] w fun e w' => e = .returned (.tuple #[.int .i64 r1, .int .i64 r2, .int .i64 r3]) ∧ Below w.heap.size w w' := by
 induction k using Nat.strongRecOn with
 | _ k ih =>
 intro A0 c0 l0 a1 A2 c2 l2 A3 c3 l3 r1 r2 r3 w hr0 hc0 hr2 hc2 hr3 hc3 h
 cases k with
 | zero => exact absurd h (by simp [whirligigref04_Of.f])
 | succ k =>
 simp only [whirligigref04_Of.f] at h
 have hu159 := Tryd.underlying159
 have HR0 := Aside0.mk hr0
 have HC0 := Aside0.mk hc0
 clear hr0 hc0
 have HR2 := Aside0.mk hr2
 have HC2 := Aside0.mk hc2
 clear hr2 hc2
 have HR3 := Aside0.mk hr3
 have HC3 := Aside0.mk hc3
 clear hr3 hc3
 have HB := Aside0.mk (Below.refl w.heap.size w)
 have H : (if 0 ≤ a1 then (if a1 < (l0.length : Int) then (if ((rd_T159 l0 a1).f0) = 0 then (some ((rd_T159 l0 a1).f1.f0, 0, 0)) else (if ((rd_T159 l0 a1).f0) = 16 then (whirligigref04_Of.l0 k a1 l2 0 ((rd_T159 l0 a1).f0) ((rd_T159 l0 a1).f1.f0) ((rd_T159 l0 a1).f1.f1) ((rd_T159 l0 a1).f1.f2) ((rd_T159 l0 a1).f2) ((rd_T159 l0 a1).f3) ((rd_T159 l0 a1).f4)) else (if ((rd_T159 l0 a1).f0) = 17 then (whirligigref04_Of.l1 k a1 l3 0 ((rd_T159 l0 a1).f0) ((rd_T159 l0 a1).f1.f0) ((rd_T159 l0 a1).f1.f1) ((rd_T159 l0 a1).f1.f2) ((rd_T159 l0 a1).f2) ((rd_T159 l0 a1).f3) ((rd_T159 l0 a1).f4)) else ((whirligigref04_Of.f k l0 ((rd_T159 l0 a1).f3) l2 l3).bind fun bt876 => (if bt876.2.1 = 0 then (whirligigref04_Of.j2 k l0 a1 l2 l3 bt876.1 bt876.2.1 bt876.2.2 0 (decide (((rd_T159 l0 a1).f0) > 2)) ((rd_T159 l0 a1).f0) ((rd_T159 l0 a1).f1.f0) ((rd_T159 l0 a1).f1.f1) ((rd_T159 l0 a1).f1.f2) ((rd_T159 l0 a1).f2) ((rd_T159 l0 a1).f3) ((rd_T159 l0 a1).f4)) else (whirligigref04_Of.j2 k l0 a1 l2 l3 bt876.1 bt876.2.1 bt876.2.2 0 false ((rd_T159 l0 a1).f0) ((rd_T159 l0 a1).f1.f0) ((rd_T159 l0 a1).f1.f1) ((rd_T159 l0 a1).f1.f2) ((rd_T159 l0 a1).f2) ((rd_T159 l0 a1).f3) ((rd_T159 l0 a1).f4))))))) else (none)) else (none)) = some (r1, r2, r3) := h
 clear h
 by_cases c5 : 0 ≤ a1
 ·rw [if_pos c5] at H
  have c5b0 := decide_eq_true c5
  clear c5
  by_cases c6 : a1 < (l0.length : Int)
  ·rw [if_pos c6] at H
   have c6b0 := decide_eq_true c6
   clear c6
   by_cases c7 : ((rd_T159 l0 a1).f0) = 0
   ·rw [if_pos c7] at H
    have c7b0 := beq_iff_eq.mpr c7
    have c7b1 := bne_eq_false_iff_eq.mpr c7
    clear c7
    simp only [Option.some.injEq, Prod.mk.injEq] at H
    obtain ⟨rfl, rfl, rfl⟩ := H
    have p871 : 0 ≤ (a1 : Int) := qD
    have q871 : a1 < (l0.length : Int) := qD
    obtain ⟨ad871, e871, hx871_0, hx871_1, hx871_2, hx871_3, hx871_4, hx871_5, hx871_6⟩ := at_T159 HR0.out a1 p871 q871
    cases e871
    replace p871 := eq_true p871
    replace q871 := eq_true q871
    go_enter Tryd.func55, Tryd.ntmps55
    go_wp2_with (first | ((with_reducible refine gd 11 rfl ?_); refine bx 11 #[.int .i64 0, .int .i64 0, .int .i64 0, .string (⟨#[]⟩ : ByteArray), .string (⟨#[]⟩ : ByteArray), .int .i64 0, .int .i64 0] 159 ?_; intro gb872 hg w8 hbox hb; have BK872 := Aside0.mk (hbox); have GW872 := geS hg; have GE872 := geS hg; replace HB := bst hb; clear hb hbox hg; obtain ⟨hcz9_0, hcz9_1, hcz9_2, hcz9_3, hcz9_4, hcz9_5, hcz9_6, hfz9_0, hfz9_1, hfz9_2, hfz9_3, hfz9_4, hfz9_5, hfz9_6⟩ := cells7 BK872.out))
    repeat (go_quiet (first | ((with_reducible refine gd 11 rfl ?_); refine bx 11 #[.int .i64 0, .int .i64 0, .int .i64 0, .string (⟨#[]⟩ : ByteArray), .string (⟨#[]⟩ : ByteArray), .int .i64 0, .int .i64 0] 159 ?_; intro gb872 hg w8 hbox hb; have BK872 := Aside0.mk (hbox); have GW872 := geS hg; have GE872 := geS hg; replace HB := bst hb; clear hb hbox hg; obtain ⟨hcz9_0, hcz9_1, hcz9_2, hcz9_3, hcz9_4, hcz9_5, hcz9_6, hfz9_0, hfz9_1, hfz9_2, hfz9_3, hfz9_4, hfz9_5, hfz9_6⟩ := cells7 BK872.out)); try go_wp2_with (first | ((with_reducible refine gd 11 rfl ?_); refine bx 11 #[.int .i64 0, .int .i64 0, .int .i64 0, .string (⟨#[]⟩ : ByteArray), .string (⟨#[]⟩ : ByteArray), .int .i64 0, .int .i64 0] 159 ?_; intro gb872 hg w8 hbox hb; have BK872 := Aside0.mk (hbox); have GW872 := geS hg; have GE872 := geS hg; replace HB := bst hb; clear hb hbox hg; obtain ⟨hcz9_0, hcz9_1, hcz9_2, hcz9_3, hcz9_4, hcz9_5, hcz9_6, hfz9_0, hfz9_1, hfz9_2, hfz9_3, hfz9_4, hfz9_5, hfz9_6⟩ := cells7 BK872.out)))
    go_ret3
    exact ⟨qR, qB⟩
   ·rw [if_neg c7] at H
    have c7b0 := beq_eq_false_iff_ne.mpr c7
    have c7b1 := bne_iff_ne.mpr c7
    by_cases c10 : ((rd_T159 l0 a1).f0) = 16
    ·rw [if_pos c10] at H
     have c10b0 := beq_iff_eq.mpr c10
     have c10b1 := bne_eq_false_iff_eq.mpr c10
     clear c10
     have H' := Aside0.mk H
     clear H
     have p871 : 0 ≤ (a1 : Int) := qD
     have q871 : a1 < (l0.length : Int) := qD
     obtain ⟨ad871, e871, hx871_0, hx871_1, hx871_2, hx871_3, hx871_4, hx871_5, hx871_6⟩ := at_T159 HR0.out a1 p871 q871
     cases e871
     replace p871 := eq_true p871
     replace q871 := eq_true q871
     go_enter Tryd.func55, Tryd.ntmps55
     go_wp2_with (first | ((with_reducible refine gd 11 rfl ?_); refine bx 11 #[.int .i64 0, .int .i64 0, .int .i64 0, .string (⟨#[]⟩ : ByteArray), .string (⟨#[]⟩ : ByteArray), .int .i64 0, .int .i64 0] 159 ?_; intro gb872 hg w11 hbox hb; have BK872 := Aside0.mk (hbox); have GW872 := geS hg; have GE872 := geS hg; replace HB := bst hb; clear hb hbox hg; obtain ⟨hcz12_0, hcz12_1, hcz12_2, hcz12_3, hcz12_4, hcz12_5, hcz12_6, hfz12_0, hfz12_1, hfz12_2, hfz12_3, hfz12_4, hfz12_5, hfz12_6⟩ := cells7 BK872.out))
     repeat (go_quiet (first | ((with_reducible refine gd 11 rfl ?_); refine bx 11 #[.int .i64 0, .int .i64 0, .int .i64 0, .string (⟨#[]⟩ : ByteArray), .string (⟨#[]⟩ : ByteArray), .int .i64 0, .int .i64 0] 159 ?_; intro gb872 hg w11 hbox hb; have BK872 := Aside0.mk (hbox); have GW872 := geS hg; have GE872 := geS hg; replace HB := bst hb; clear hb hbox hg; obtain ⟨hcz12_0, hcz12_1, hcz12_2, hcz12_3, hcz12_4, hcz12_5, hcz12_6, hfz12_0, hfz12_1, hfz12_2, hfz12_3, hfz12_4, hfz12_5, hfz12_6⟩ := cells7 BK872.out)); try go_wp2_with (first | ((with_reducible refine gd 11 rfl ?_); refine bx 11 #[.int .i64 0, .int .i64 0, .int .i64 0, .string (⟨#[]⟩ : ByteArray), .string (⟨#[]⟩ : ByteArray), .int .i64 0, .int .i64 0] 159 ?_; intro gb872 hg w11 hbox hb; have BK872 := Aside0.mk (hbox); have GW872 := geS hg; have GE872 := geS hg; replace HB := bst hb; clear hb hbox hg; obtain ⟨hcz12_0, hcz12_1, hcz12_2, hcz12_3, hcz12_4, hcz12_5, hcz12_6, hfz12_0, hfz12_1, hfz12_2, hfz12_3, hfz12_4, hfz12_5, hfz12_6⟩ := cells7 BK872.out)))
     go_loopg [12] k (fun kq v12 w' => ∃ (x12_1 : Int), v12 = .int .i64 x12_1 ∧ Aside0 (whirligigref04_Of.l0 kq a1 l2 x12_1 ((rd_T159 l0 a1).f0) ((rd_T159 l0 a1).f1.f0) ((rd_T159 l0 a1).f1.f1) ((rd_T159 l0 a1).f1.f2) ((rd_T159 l0 a1).f2) ((rd_T159 l0 a1).f3) ((rd_T159 l0 a1).f4) = some (r1, r2, r3)) ∧ Aside0 (kq ≤ k) ∧ Aside0 (w'.heap[gb872]? = some (.cells #[.int .i64 ((rd_T159 l0 a1).f0), .int .i64 ((rd_T159 l0 a1).f1.f0), .int .i64 ((rd_T159 l0 a1).f1.f1), .string ((rd_T159 l0 a1).f1.f2), .string ((rd_T159 l0 a1).f2), .int .i64 ((rd_T159 l0 a1).f3), .int .i64 ((rd_T159 l0 a1).f4)] 159 (0, 0))) ∧ Aside0 (Below w.heap.size w w'))
     case atStart => exact ⟨(0), (by first | rfl | (simp; done) | (simp [*]; done)), H', ⟨Nat.le_refl _⟩, ⟨qP⟩, ⟨qB⟩⟩
     case round =>
      clear H'
      try clear c1
      try clear c2
      try clear p2
      try clear c3
      try clear c5
      try clear c5b0
      try clear c6
      try clear c6b0
      try clear c7
      try clear c7b0
      try clear c7b1
      try clear p8
      try clear q8
      try clear hx8
      try clear c10
      try clear c10b0
      try clear c10b1
      try clear hcz12_0 hcz12_1 hcz12_2 hcz12_3 hcz12_4 hcz12_5 hcz12_6 hfz12_0 hfz12_1 hfz12_2 hfz12_3 hfz12_4 hfz12_5 hfz12_6
      try clear hcz9_0 hcz9_1 hcz9_2 hcz9_3 hcz9_4 hcz9_5 hcz9_6 hfz9_0 hfz9_1 hfz9_2 hfz9_3 hfz9_4 hfz9_5 hfz9_6
      try clear hx871_0
      try clear hx871_1
      try clear hx871_2
      try clear hx871_3
      try clear hx871_4
      try clear hx871_5
      try clear hx871_6
      try clear p871
      try clear q871
      obtain ⟨x12_1, rfl, HA, HK1, BK872, HB⟩ := hrel
      cases gk with
      | zero => exact absurd HA.out (by simp [whirligigref04_Of.l0])
      | succ k1 =>
       have H := HA.out
       clear HA
       simp only [whirligigref04_Of.l0] at H
       replace H := iD H
       rcases H with ⟨c13b0, H⟩ | ⟨c13b0, H⟩
       ·by_cases c14 : 0 ≤ x12_1
        ·rw [if_pos c14] at H
         have c14b0 := decide_eq_true c14
         clear c14
         by_cases c15 : ((rd_T151 l2 x12_1).f0).toList = ((rd_T159 l0 a1).f2).toList
         ·rw [if_pos c15] at H
          have c15b0 := beq_iff_eq.mpr c15
          have c15b1 := bne_eq_false_iff_eq.mpr c15
          clear c15
          simp only [Option.some.injEq, Prod.mk.injEq] at H
          obtain ⟨rfl, rfl, rfl⟩ := H
          have p873 : 0 ≤ (x12_1 : Int) := qD
          have q873 : x12_1 < (l2.length : Int) := qD
          obtain ⟨ad873, e873, hx873_0, hx873_1⟩ := at_T151 (Kd.C_below HR2.out HB.out) x12_1 p873 q873
          cases e873
          replace p873 := eq_true p873
          replace q873 := eq_true q873
          obtain ⟨hcz16_0, hcz16_1, hcz16_2, hcz16_3, hcz16_4, hcz16_5, hcz16_6, hfz16_0, hfz16_1, hfz16_2, hfz16_3, hfz16_4, hfz16_5, hfz16_6⟩ := cells7 BK872.out
          have p874 : 0 ≤ (x12_1 : Int) := qD
          have q874 : x12_1 < (l2.length : Int) := qD
          obtain ⟨ad874, e874, hx874_0, hx874_1⟩ := at_T151 HR2.out x12_1 p874 q874
          obtain rfl : ad873 = ad874 := (by injection e874)
          replace hx874_0 := pw_cell_below HB.out hx874_0
          replace hx874_1 := pw_cell_below HB.out hx874_1
          replace p874 := eq_true p874
          replace q874 := eq_true q874
          go_wp2
          repeat (go_quiet (fail); try go_wp2)
          go_ret3
          exact ⟨qR, qB⟩
         ·rw [if_neg c15] at H
          have c15b0 := beq_eq_false_iff_ne.mpr c15
          have c15b1 := bne_iff_ne.mpr c15
          have H' := Aside0.mk H
          clear H
          have p873 : 0 ≤ (x12_1 : Int) := qD
          have q873 : x12_1 < (l2.length : Int) := qD
          obtain ⟨ad873, e873, hx873_0, hx873_1⟩ := at_T151 (Kd.C_below HR2.out HB.out) x12_1 p873 q873
          cases e873
          replace p873 := eq_true p873
          replace q873 := eq_true q873
          obtain ⟨hcz17_0, hcz17_1, hcz17_2, hcz17_3, hcz17_4, hcz17_5, hcz17_6, hfz17_0, hfz17_1, hfz17_2, hfz17_3, hfz17_4, hfz17_5, hfz17_6⟩ := cells7 BK872.out
          go_wp2
          repeat (go_quiet (fail); try go_wp2)
          go_roundg k1
          case measure => have := HK1.out; omega
          case rel => exact ⟨(wrap64 (x12_1 + 1)), (by first | rfl | (simp; done) | (simp [*]; done)), H', ⟨by have := HK1.out; omega⟩, ⟨qK⟩, ⟨qB⟩⟩
        ·rw [if_neg c14] at H
         exact absurd H (by simp)
       ·simp only [Option.some.injEq, Prod.mk.injEq] at H
        obtain ⟨rfl, rfl, rfl⟩ := H
        go_wp2
        repeat (go_quiet (fail); try go_wp2)
        go_ret3
        exact ⟨qR, qB⟩
    ·rw [if_neg c10] at H
     have c10b0 := beq_eq_false_iff_ne.mpr c10
     have c10b1 := bne_iff_ne.mpr c10
     by_cases c18 : ((rd_T159 l0 a1).f0) = 17
     ·rw [if_pos c18] at H
      have c18b0 := beq_iff_eq.mpr c18
      have c18b1 := bne_eq_false_iff_eq.mpr c18
      clear c18
      have H' := Aside0.mk H
      clear H
      have p871 : 0 ≤ (a1 : Int) := qD
      have q871 : a1 < (l0.length : Int) := qD
      obtain ⟨ad871, e871, hx871_0, hx871_1, hx871_2, hx871_3, hx871_4, hx871_5, hx871_6⟩ := at_T159 HR0.out a1 p871 q871
      cases e871
      replace p871 := eq_true p871
      replace q871 := eq_true q871
      go_enter Tryd.func55, Tryd.ntmps55
      go_wp2_with (first | ((with_reducible refine gd 11 rfl ?_); refine bx 11 #[.int .i64 0, .int .i64 0, .int .i64 0, .string (⟨#[]⟩ : ByteArray), .string (⟨#[]⟩ : ByteArray), .int .i64 0, .int .i64 0] 159 ?_; intro gb872 hg w19 hbox hb; have BK872 := Aside0.mk (hbox); have GW872 := geS hg; have GE872 := geS hg; replace HB := bst hb; clear hb hbox hg; obtain ⟨hcz20_0, hcz20_1, hcz20_2, hcz20_3, hcz20_4, hcz20_5, hcz20_6, hfz20_0, hfz20_1, hfz20_2, hfz20_3, hfz20_4, hfz20_5, hfz20_6⟩ := cells7 BK872.out))
      repeat (go_quiet (first | ((with_reducible refine gd 11 rfl ?_); refine bx 11 #[.int .i64 0, .int .i64 0, .int .i64 0, .string (⟨#[]⟩ : ByteArray), .string (⟨#[]⟩ : ByteArray), .int .i64 0, .int .i64 0] 159 ?_; intro gb872 hg w19 hbox hb; have BK872 := Aside0.mk (hbox); have GW872 := geS hg; have GE872 := geS hg; replace HB := bst hb; clear hb hbox hg; obtain ⟨hcz20_0, hcz20_1, hcz20_2, hcz20_3, hcz20_4, hcz20_5, hcz20_6, hfz20_0, hfz20_1, hfz20_2, hfz20_3, hfz20_4, hfz20_5, hfz20_6⟩ := cells7 BK872.out)); try go_wp2_with (first | ((with_reducible refine gd 11 rfl ?_); refine bx 11 #[.int .i64 0, .int .i64 0, .int .i64 0, .string (⟨#[]⟩ : ByteArray), .string (⟨#[]⟩ : ByteArray), .int .i64 0, .int .i64 0] 159 ?_; intro gb872 hg w19 hbox hb; have BK872 := Aside0.mk (hbox); have GW872 := geS hg; have GE872 := geS hg; replace HB := bst hb; clear hb hbox hg; obtain ⟨hcz20_0, hcz20_1, hcz20_2, hcz20_3, hcz20_4, hcz20_5, hcz20_6, hfz20_0, hfz20_1, hfz20_2, hfz20_3, hfz20_4, hfz20_5, hfz20_6⟩ := cells7 BK872.out)))
      go_loopg [13] k (fun kq v13 w' => ∃ (x13_1 : Int), v13 = .int .i64 x13_1 ∧ Aside0 (whirligigref04_Of.l1 kq a1 l3 x13_1 ((rd_T159 l0 a1).f0) ((rd_T159 l0 a1).f1.f0) ((rd_T159 l0 a1).f1.f1) ((rd_T159 l0 a1).f1.f2) ((rd_T159 l0 a1).f2) ((rd_T159 l0 a1).f3) ((rd_T159 l0 a1).f4) = some (r1, r2, r3)) ∧ Aside0 (kq ≤ k) ∧ Aside0 (w'.heap[gb872]? = some (.cells #[.int .i64 ((rd_T159 l0 a1).f0), .int .i64 ((rd_T159 l0 a1).f1.f0), .int .i64 ((rd_T159 l0 a1).f1.f1), .string ((rd_T159 l0 a1).f1.f2), .string ((rd_T159 l0 a1).f2), .int .i64 ((rd_T159 l0 a1).f3), .int .i64 ((rd_T159 l0 a1).f4)] 159 (0, 0))) ∧ Aside0 (Below w.heap.size w w'))
      case atStart => exact ⟨(0), (by first | rfl | (simp; done) | (simp [*]; done)), H', ⟨Nat.le_refl _⟩, ⟨qP⟩, ⟨qB⟩⟩
      case round =>
       clear H'
       try clear c1
       try clear c2
       try clear p2 p2
       try clear c3
       try clear c5
       try clear c5b0
       try clear c6
       try clear c6b0
       try clear p6
       try clear c7
       try clear c7b0
       try clear c7b1
       try clear p8 p8
       try clear q8 q8
       try clear hx8
       try clear c10
       try clear c10b0
       try clear c10b1
       try clear c13
       try clear c13b0
       try clear c14
       try clear c14b0
       try clear c15
       try clear c15b0
       try clear c15b1
       try clear c18
       try clear c18b0
       try clear c18b1
       try clear hcz12_0 hcz12_1 hcz12_2 hcz12_3 hcz12_4 hcz12_5 hcz12_6 hfz12_0 hfz12_1 hfz12_2 hfz12_3 hfz12_4 hfz12_5 hfz12_6
       try clear hcz16_0 hcz16_1 hcz16_2 hcz16_3 hcz16_4 hcz16_5 hcz16_6 hfz16_0 hfz16_1 hfz16_2 hfz16_3 hfz16_4 hfz16_5 hfz16_6
       try clear hcz17_0 hcz17_1 hcz17_2 hcz17_3 hcz17_4 hcz17_5 hcz17_6 hfz17_0 hfz17_1 hfz17_2 hfz17_3 hfz17_4 hfz17_5 hfz17_6
       try clear hcz20_0 hcz20_1 hcz20_2 hcz20_3 hcz20_4 hcz20_5 hcz20_6 hfz20_0 hfz20_1 hfz20_2 hfz20_3 hfz20_4 hfz20_5 hfz20_6
       try clear hcz9_0 hcz9_1 hcz9_2 hcz9_3 hcz9_4 hcz9_5 hcz9_6 hfz9_0 hfz9_1 hfz9_2 hfz9_3 hfz9_4 hfz9_5 hfz9_6
       try clear hx871_0
       try clear hx871_1
       try clear hx871_2
       try clear hx871_3
       try clear hx871_4
       try clear hx871_5
       try clear hx871_6
       try clear hx873_0
       try clear hx873_1
       try clear hx874_0
       try clear hx874_1
       try clear p871
       try clear p873
       try clear p874
       try clear q871
       try clear q873
       try clear q874
       obtain ⟨x13_1, rfl, HA, HK1, BK872, HB⟩ := hrel
       cases gk with
       | zero => exact absurd HA.out (by simp [whirligigref04_Of.l1])
       | succ k1 =>
        have H := HA.out
        clear HA
        simp only [whirligigref04_Of.l1] at H
        replace H := iD H
        rcases H with ⟨c21b0, H⟩ | ⟨c21b0, H⟩
        ·by_cases c22 : 0 ≤ x13_1
         ·rw [if_pos c22] at H
          have c22b0 := decide_eq_true c22
          clear c22
          by_cases c23 : (rdOf ByteArray.empty l3 x13_1).toList = ((rd_T159 l0 a1).f2).toList
          ·rw [if_pos c23] at H
           have c23b0 := beq_iff_eq.mpr c23
           have c23b1 := bne_eq_false_iff_eq.mpr c23
           clear c23
           simp only [Option.some.injEq, Prod.mk.injEq] at H
           obtain ⟨rfl, rfl, rfl⟩ := H
           have p875 : 0 ≤ (x13_1 : Int) := qD
           have q875 : x13_1 < (l3.length : Int) := qD
           obtain ⟨ad875, e875, hx875_0⟩ := Kd.at_string HR3.out x13_1 p875 q875
           cases e875
           replace hx875_0 := pw_cell_below HB.out hx875_0
           replace p875 := eq_true p875
           replace q875 := eq_true q875
           obtain ⟨hcz24_0, hcz24_1, hcz24_2, hcz24_3, hcz24_4, hcz24_5, hcz24_6, hfz24_0, hfz24_1, hfz24_2, hfz24_3, hfz24_4, hfz24_5, hfz24_6⟩ := cells7 BK872.out
           go_wp2
           repeat (go_quiet (fail); try go_wp2)
           go_ret3
           exact ⟨qR, qB⟩
          ·rw [if_neg c23] at H
           have c23b0 := beq_eq_false_iff_ne.mpr c23
           have c23b1 := bne_iff_ne.mpr c23
           have H' := Aside0.mk H
           clear H
           have p875 : 0 ≤ (x13_1 : Int) := qD
           have q875 : x13_1 < (l3.length : Int) := qD
           obtain ⟨ad875, e875, hx875_0⟩ := Kd.at_string HR3.out x13_1 p875 q875
           cases e875
           replace hx875_0 := pw_cell_below HB.out hx875_0
           replace p875 := eq_true p875
           replace q875 := eq_true q875
           obtain ⟨hcz25_0, hcz25_1, hcz25_2, hcz25_3, hcz25_4, hcz25_5, hcz25_6, hfz25_0, hfz25_1, hfz25_2, hfz25_3, hfz25_4, hfz25_5, hfz25_6⟩ := cells7 BK872.out
           go_wp2
           repeat (go_quiet (fail); try go_wp2)
           go_roundg k1
           case measure => have := HK1.out; omega
           case rel => exact ⟨(wrap64 (x13_1 + 1)), (by first | rfl | (simp; done) | (simp [*]; done)), H', ⟨by have := HK1.out; omega⟩, ⟨qK⟩, ⟨qB⟩⟩
         ·rw [if_neg c22] at H
          exact absurd H (by simp)
        ·simp only [Option.some.injEq, Prod.mk.injEq] at H
         obtain ⟨rfl, rfl, rfl⟩ := H
         go_wp2
         repeat (go_quiet (fail); try go_wp2)
         go_ret3
         exact ⟨qR, qB⟩
     ·rw [if_neg c18] at H
      have c18b0 := beq_eq_false_iff_ne.mpr c18
      have c18b1 := bne_iff_ne.mpr c18
      replace H := Option.bind_eq_some_iff.mp H
      obtain ⟨⟨t876, t877, t878⟩, A260, H⟩ := H
      (try dsimp -simprocs only at H)
      have A26 := Aside0.mk A260
      clear A260
      have HC27 := Aside0.mk H
      clear H
      have p871 : 0 ≤ (a1 : Int) := qD
      have q871 : a1 < (l0.length : Int) := qD
      obtain ⟨ad871, e871, hx871_0, hx871_1, hx871_2, hx871_3, hx871_4, hx871_5, hx871_6⟩ := at_T159 HR0.out a1 p871 q871
      cases e871
      replace p871 := eq_true p871
      replace q871 := eq_true q871
      go_enter Tryd.func55, Tryd.ntmps55
      go_upto_region 20 with (first | ((with_reducible refine gd 11 rfl ?_); refine bx 11 #[.int .i64 0, .int .i64 0, .int .i64 0, .string (⟨#[]⟩ : ByteArray), .string (⟨#[]⟩ : ByteArray), .int .i64 0, .int .i64 0] 159 ?_; intro gb872 hg w28 hbox hb; have BK872 := Aside0.mk (hbox); have GW872 := geS hg; have GE872 := geS hg; replace HB := bst hb; clear hb hbox hg; obtain ⟨hcz29_0, hcz29_1, hcz29_2, hcz29_3, hcz29_4, hcz29_5, hcz29_6, hfz29_0, hfz29_1, hfz29_2, hfz29_3, hfz29_4, hfz29_5, hfz29_6⟩ := cells7 BK872.out) | (go_at_call 55; (with_reducible refine (ih k (by omega) _ _ l0 ((rd_T159 l0 a1).f3) _ _ l2 _ _ l3 t876 t877 t878 _ ?side1 ?side2 ?side3 ?side4 ?side5 ?side6 A26.out).mono ?_); (case side1 => exact Kd.C_below HR0.out qB); (case side2 => exact HC0.out); (case side3 => exact Kd.C_below HR2.out qB); (case side4 => exact HC2.out); (case side5 => exact Kd.C_below HR3.out qB); (case side6 => exact HC3.out); rintro e w30 ⟨rfl, hb⟩; replace BK872 := kp gb872 (.cells #[.int .i64 ((rd_T159 l0 a1).f0), .int .i64 ((rd_T159 l0 a1).f1.f0), .int .i64 ((rd_T159 l0 a1).f1.f1), .string ((rd_T159 l0 a1).f1.f2), .string ((rd_T159 l0 a1).f2), .int .i64 ((rd_T159 l0 a1).f3), .int .i64 ((rd_T159 l0 a1).f4)] 159 (0, 0)) hb; replace HB := bst hb; (try clear hb)))
      repeat (go_quiet (first | ((with_reducible refine gd 11 rfl ?_); refine bx 11 #[.int .i64 0, .int .i64 0, .int .i64 0, .string (⟨#[]⟩ : ByteArray), .string (⟨#[]⟩ : ByteArray), .int .i64 0, .int .i64 0] 159 ?_; intro gb872 hg w28 hbox hb; have BK872 := Aside0.mk (hbox); have GW872 := geS hg; have GE872 := geS hg; replace HB := bst hb; clear hb hbox hg; obtain ⟨hcz29_0, hcz29_1, hcz29_2, hcz29_3, hcz29_4, hcz29_5, hcz29_6, hfz29_0, hfz29_1, hfz29_2, hfz29_3, hfz29_4, hfz29_5, hfz29_6⟩ := cells7 BK872.out) | (go_at_call 55; (with_reducible refine (ih k (by omega) _ _ l0 ((rd_T159 l0 a1).f3) _ _ l2 _ _ l3 t876 t877 t878 _ ?side1 ?side2 ?side3 ?side4 ?side5 ?side6 A26.out).mono ?_); (case side1 => exact Kd.C_below HR0.out qB); (case side2 => exact HC0.out); (case side3 => exact Kd.C_below HR2.out qB); (case side4 => exact HC2.out); (case side5 => exact Kd.C_below HR3.out qB); (case side6 => exact HC3.out); rintro e w30 ⟨rfl, hb⟩; replace BK872 := kp gb872 (.cells #[.int .i64 ((rd_T159 l0 a1).f0), .int .i64 ((rd_T159 l0 a1).f1.f0), .int .i64 ((rd_T159 l0 a1).f1.f1), .string ((rd_T159 l0 a1).f1.f2), .string ((rd_T159 l0 a1).f2), .int .i64 ((rd_T159 l0 a1).f3), .int .i64 ((rd_T159 l0 a1).f4)] 159 (0, 0)) hb; replace HB := bst hb; (try clear hb))); go_upto_region 20 with (first | ((with_reducible refine gd 11 rfl ?_); refine bx 11 #[.int .i64 0, .int .i64 0, .int .i64 0, .string (⟨#[]⟩ : ByteArray), .string (⟨#[]⟩ : ByteArray), .int .i64 0, .int .i64 0] 159 ?_; intro gb872 hg w28 hbox hb; have BK872 := Aside0.mk (hbox); have GW872 := geS hg; have GE872 := geS hg; replace HB := bst hb; clear hb hbox hg; obtain ⟨hcz29_0, hcz29_1, hcz29_2, hcz29_3, hcz29_4, hcz29_5, hcz29_6, hfz29_0, hfz29_1, hfz29_2, hfz29_3, hfz29_4, hfz29_5, hfz29_6⟩ := cells7 BK872.out) | (go_at_call 55; (with_reducible refine (ih k (by omega) _ _ l0 ((rd_T159 l0 a1).f3) _ _ l2 _ _ l3 t876 t877 t878 _ ?side1 ?side2 ?side3 ?side4 ?side5 ?side6 A26.out).mono ?_); (case side1 => exact Kd.C_below HR0.out qB); (case side2 => exact HC0.out); (case side3 => exact Kd.C_below HR2.out qB); (case side4 => exact HC2.out); (case side5 => exact Kd.C_below HR3.out qB); (case side6 => exact HC3.out); rintro e w30 ⟨rfl, hb⟩; replace BK872 := kp gb872 (.cells #[.int .i64 ((rd_T159 l0 a1).f0), .int .i64 ((rd_T159 l0 a1).f1.f0), .int .i64 ((rd_T159 l0 a1).f1.f1), .string ((rd_T159 l0 a1).f1.f2), .string ((rd_T159 l0 a1).f2), .int .i64 ((rd_T159 l0 a1).f3), .int .i64 ((rd_T159 l0 a1).f4)] 159 (0, 0)) hb; replace HB := bst hb; (try clear hb))))
      (try simp only [Act.put, List.setIfInBounds_toArray, List.set_cons_zero, List.set_cons_succ])
      go_cut [85] (fun v85 wc => ∃ (kq : Nat) (x85_26 : Bool), v85 = .bool x85_26 ∧ Aside0 (whirligigref04_Of.j2 kq l0 a1 l2 l3 t876 t877 t878 0 x85_26 ((rd_T159 l0 a1).f0) ((rd_T159 l0 a1).f1.f0) ((rd_T159 l0 a1).f1.f1) ((rd_T159 l0 a1).f1.f2) ((rd_T159 l0 a1).f2) ((rd_T159 l0 a1).f3) ((rd_T159 l0 a1).f4) = some (r1, r2, r3)) ∧ Aside0 (kq ≤ k) ∧ Aside0 (wc.heap[gb872]? = some (.cells #[.int .i64 ((rd_T159 l0 a1).f0), .int .i64 ((rd_T159 l0 a1).f1.f0), .int .i64 ((rd_T159 l0 a1).f1.f1), .string ((rd_T159 l0 a1).f1.f2), .string ((rd_T159 l0 a1).f2), .int .i64 ((rd_T159 l0 a1).f3), .int .i64 ((rd_T159 l0 a1).f4)] 159 (0, 0))) ∧ Aside0 (Below w.heap.size w wc))
      case first =>
       have H := HC27.out
       clear HC27
       by_cases c31 : t877 = 0
       ·rw [if_pos c31] at H
        have c31b0 := beq_iff_eq.mpr c31
        have c31b1 := bne_eq_false_iff_eq.mpr c31
        clear c31
        (first | rw [c31b0] | (simp only [i64_w, i32_w]; rw [c31b0]) | skip)
        have H' := Aside0.mk H
        clear H
        obtain ⟨hcz32_0, hcz32_1, hcz32_2, hcz32_3, hcz32_4, hcz32_5, hcz32_6, hfz32_0, hfz32_1, hfz32_2, hfz32_3, hfz32_4, hfz32_5, hfz32_6⟩ := cells7 BK872.out
        go_wp2
        repeat (go_quiet (fail); try go_wp2)
        go_meet
        case rel => exact ⟨_, (decide (((rd_T159 l0 a1).f0) > 2)), (by first | rfl | (simp; done) | (simp [*]; done)), H', ⟨by first | omega | exact Nat.le_refl _⟩, ⟨qK⟩, ⟨qB⟩⟩
       ·rw [if_neg c31] at H
        have c31b0 := beq_eq_false_iff_ne.mpr c31
        have c31b1 := bne_iff_ne.mpr c31
        (first | rw [c31b0] | (simp only [i64_w, i32_w]; rw [c31b0]) | skip)
        have H' := Aside0.mk H
        clear H
        go_wp2
        repeat (go_quiet (fail); try go_wp2)
        go_meet
        case rel => exact ⟨_, (false), (by first | rfl | (simp; done) | (simp [*]; done)), H', ⟨by first | omega | exact Nat.le_refl _⟩, ⟨qK⟩, ⟨qB⟩⟩
      case rest =>
       clear HC27
       try clear c1
       try clear c2
       try clear p2 p2
       try clear c3
       try clear c5
       try clear c5b0
       try clear c6
       try clear c6b0
       try clear p6 p6
       try clear c7
       try clear c7b0
       try clear c7b1
       try clear p8 p8
       try clear q8 q8
       try clear hx8
       try clear c10
       try clear c10b0
       try clear c10b1
       try clear c13
       try clear c13b0
       try clear c14
       try clear c14b0
       try clear c15
       try clear c15b0
       try clear c15b1
       try clear c18
       try clear c18b0
       try clear c18b1
       try clear c21
       try clear c21b0
       try clear c22
       try clear c22b0
       try clear c23
       try clear c23b0
       try clear c23b1
       try clear c31
       try clear c31b0
       try clear c31b1
       try clear hcz12_0 hcz12_1 hcz12_2 hcz12_3 hcz12_4 hcz12_5 hcz12_6 hfz12_0 hfz12_1 hfz12_2 hfz12_3 hfz12_4 hfz12_5 hfz12_6
       try clear hcz16_0 hcz16_1 hcz16_2 hcz16_3 hcz16_4 hcz16_5 hcz16_6 hfz16_0 hfz16_1 hfz16_2 hfz16_3 hfz16_4 hfz16_5 hfz16_6
       try clear hcz17_0 hcz17_1 hcz17_2 hcz17_3 hcz17_4 hcz17_5 hcz17_6 hfz17_0 hfz17_1 hfz17_2 hfz17_3 hfz17_4 hfz17_5 hfz17_6
       try clear hcz20_0 hcz20_1 hcz20_2 hcz20_3 hcz20_4 hcz20_5 hcz20_6 hfz20_0 hfz20_1 hfz20_2 hfz20_3 hfz20_4 hfz20_5 hfz20_6
       try clear hcz24_0 hcz24_1 hcz24_2 hcz24_3 hcz24_4 hcz24_5 hcz24_6 hfz24_0 hfz24_1 hfz24_2 hfz24_3 hfz24_4 hfz24_5 hfz24_6
       try clear hcz25_0 hcz25_1 hcz25_2 hcz25_3 hcz25_4 hcz25_5 hcz25_6 hfz25_0 hfz25_1 hfz25_2 hfz25_3 hfz25_4 hfz25_5 hfz25_6
       try clear hcz29_0 hcz29_1 hcz29_2 hcz29_3 hcz29_4 hcz29_5 hcz29_6 hfz29_0 hfz29_1 hfz29_2 hfz29_3 hfz29_4 hfz29_5 hfz29_6
       try clear hcz32_0 hcz32_1 hcz32_2 hcz32_3 hcz32_4 hcz32_5 hcz32_6 hfz32_0 hfz32_1 hfz32_2 hfz32_3 hfz32_4 hfz32_5 hfz32_6
       try clear hcz9_0 hcz9_1 hcz9_2 hcz9_3 hcz9_4 hcz9_5 hcz9_6 hfz9_0 hfz9_1 hfz9_2 hfz9_3 hfz9_4 hfz9_5 hfz9_6
       try clear hx871_0
       try clear hx871_1
       try clear hx871_2
       try clear hx871_3
       try clear hx871_4
       try clear hx871_5
       try clear hx871_6
       try clear hx873_0
       try clear hx873_1
       try clear hx874_0
       try clear hx874_1
       try clear hx875_0
       try clear p871
       try clear p873
       try clear p874
       try clear p875
       try clear q871
       try clear q873
       try clear q874
       try clear q875
       obtain ⟨kq, x85_26, rfl, HA, HJ26, BK872, HB⟩ := hcut
       cases kq with
       | zero => exact absurd HA.out (by simp [whirligigref04_Of.j2])
       | succ kj26 =>
        have H := HA.out
        clear HA
        simp only [whirligigref04_Of.j2] at H
        have HC33 := Aside0.mk H
        clear H
        go_upto_if 85 with (fail)
        repeat (go_quiet (fail); go_upto_if 85 with (fail))
        go_cut [15, 16, 17] (fun v15 v16 v17 wc => ∃ (kq : Nat) (x15_32 : Int) (x16_32 : Int) (x17_32 : Int), v15 = .int .i64 x15_32 ∧ v16 = .int .i64 x16_32 ∧ v17 = .int .i64 x17_32 ∧ Aside0 (whirligigref04_Of.j3 kq a1 t876 x15_32 x16_32 x17_32 ((rd_T159 l0 a1).f0) ((rd_T159 l0 a1).f1.f0) ((rd_T159 l0 a1).f1.f1) ((rd_T159 l0 a1).f1.f2) ((rd_T159 l0 a1).f2) ((rd_T159 l0 a1).f3) ((rd_T159 l0 a1).f4) = some (r1, r2, r3)) ∧ Aside0 (kq ≤ kj26) ∧ Aside0 (wc.heap[gb872]? = some (.cells #[.int .i64 ((rd_T159 l0 a1).f0), .int .i64 ((rd_T159 l0 a1).f1.f0), .int .i64 ((rd_T159 l0 a1).f1.f1), .string ((rd_T159 l0 a1).f1.f2), .string ((rd_T159 l0 a1).f2), .int .i64 ((rd_T159 l0 a1).f3), .int .i64 ((rd_T159 l0 a1).f4)] 159 (0, 0))) ∧ Aside0 (Below w.heap.size w wc))
        case first =>
         have H := HC33.out
         clear HC33
         by_cases c34 : x85_26 = true
         ·subst c34
          rw [if_pos rfl] at H
          replace H := Option.bind_eq_some_iff.mp H
          obtain ⟨⟨t879, t880, t881⟩, A350, H⟩ := H
          (try dsimp -simprocs only at H)
          have A35 := Aside0.mk A350
          clear A350
          have H' := Aside0.mk H
          clear H
          obtain ⟨hcz36_0, hcz36_1, hcz36_2, hcz36_3, hcz36_4, hcz36_5, hcz36_6, hfz36_0, hfz36_1, hfz36_2, hfz36_3, hfz36_4, hfz36_5, hfz36_6⟩ := cells7 BK872.out
          go_wp2_with (first | (go_at_call 55; (with_reducible refine (ih kj26 (by have := HJ26.out; omega) _ _ l0 ((rd_T159 l0 a1).f4) _ _ l2 _ _ l3 t879 t880 t881 _ ?side1 ?side2 ?side3 ?side4 ?side5 ?side6 A35.out).mono ?_); (case side1 => exact qC); (case side2 => exact HC0.out); (case side3 => exact qC); (case side4 => exact HC2.out); (case side5 => exact qC); (case side6 => exact HC3.out); rintro e w37 ⟨rfl, hb⟩; replace BK872 := kb gb872 hb; replace HB := bst hb; (try clear hb)))
          repeat (go_quiet (first | (go_at_call 55; (with_reducible refine (ih kj26 (by have := HJ26.out; omega) _ _ l0 ((rd_T159 l0 a1).f4) _ _ l2 _ _ l3 t879 t880 t881 _ ?side1 ?side2 ?side3 ?side4 ?side5 ?side6 A35.out).mono ?_); (case side1 => exact qC); (case side2 => exact HC0.out); (case side3 => exact qC); (case side4 => exact HC2.out); (case side5 => exact qC); (case side6 => exact HC3.out); rintro e w37 ⟨rfl, hb⟩; replace BK872 := kb gb872 hb; replace HB := bst hb; (try clear hb))); try go_wp2_with (first | (go_at_call 55; (with_reducible refine (ih kj26 (by have := HJ26.out; omega) _ _ l0 ((rd_T159 l0 a1).f4) _ _ l2 _ _ l3 t879 t880 t881 _ ?side1 ?side2 ?side3 ?side4 ?side5 ?side6 A35.out).mono ?_); (case side1 => exact qC); (case side2 => exact HC0.out); (case side3 => exact qC); (case side4 => exact HC2.out); (case side5 => exact qC); (case side6 => exact HC3.out); rintro e w37 ⟨rfl, hb⟩; replace BK872 := kb gb872 hb; replace HB := bst hb; (try clear hb))))
          go_meet
          case rel => exact ⟨_, (t880), (t881), (t879), (by first | rfl | (simp; done) | (simp [*]; done)), (by first | rfl | (simp; done) | (simp [*]; done)), (by first | rfl | (simp; done) | (simp [*]; done)), H', ⟨by have := HJ26.out; first | omega | exact Nat.le_refl _⟩, ⟨qK⟩, ⟨qB⟩⟩
         ·replace c34 := Bool.eq_false_iff.mpr c34
          subst c34
          rw [if_neg (show ¬ (false = true) by decide)] at H
          have H' := Aside0.mk H
          clear H
          go_wp2
          repeat (go_quiet (fail); try go_wp2)
          go_meet
          case rel => exact ⟨_, (t877), (t878), (0), (by first | rfl | (simp; done) | (simp [*]; done)), (by first | rfl | (simp; done) | (simp [*]; done)), (by first | rfl | (simp; done) | (simp [*]; done)), H', ⟨by have := HJ26.out; first | omega | exact Nat.le_refl _⟩, ⟨qK⟩, ⟨qB⟩⟩
        case rest =>
         clear HC33
         try clear c1
         try clear c2
         try clear p2 p2
         try clear c3
         try clear c5
         try clear c5b0
         try clear c6
         try clear c6b0
         try clear p6 p6
         try clear c7
         try clear c7b0
         try clear c7b1
         try clear p8 p8
         try clear q8 q8
         try clear hx8
         try clear c10
         try clear c10b0
         try clear c10b1
         try clear c13
         try clear c13b0
         try clear c14
         try clear c14b0
         try clear c15
         try clear c15b0
         try clear c15b1
         try clear c18
         try clear c18b0
         try clear c18b1
         try clear c21
         try clear c21b0
         try clear c22
         try clear c22b0
         try clear c23
         try clear c23b0
         try clear c23b1
         try clear c31
         try clear c31b0
         try clear c31b1
         try clear c34
         try clear hcz12_0 hcz12_1 hcz12_2 hcz12_3 hcz12_4 hcz12_5 hcz12_6 hfz12_0 hfz12_1 hfz12_2 hfz12_3 hfz12_4 hfz12_5 hfz12_6
         try clear hcz16_0 hcz16_1 hcz16_2 hcz16_3 hcz16_4 hcz16_5 hcz16_6 hfz16_0 hfz16_1 hfz16_2 hfz16_3 hfz16_4 hfz16_5 hfz16_6
         try clear hcz17_0 hcz17_1 hcz17_2 hcz17_3 hcz17_4 hcz17_5 hcz17_6 hfz17_0 hfz17_1 hfz17_2 hfz17_3 hfz17_4 hfz17_5 hfz17_6
         try clear hcz20_0 hcz20_1 hcz20_2 hcz20_3 hcz20_4 hcz20_5 hcz20_6 hfz20_0 hfz20_1 hfz20_2 hfz20_3 hfz20_4 hfz20_5 hfz20_6
         try clear hcz24_0 hcz24_1 hcz24_2 hcz24_3 hcz24_4 hcz24_5 hcz24_6 hfz24_0 hfz24_1 hfz24_2 hfz24_3 hfz24_4 hfz24_5 hfz24_6
         try clear hcz25_0 hcz25_1 hcz25_2 hcz25_3 hcz25_4 hcz25_5 hcz25_6 hfz25_0 hfz25_1 hfz25_2 hfz25_3 hfz25_4 hfz25_5 hfz25_6
         try clear hcz29_0 hcz29_1 hcz29_2 hcz29_3 hcz29_4 hcz29_5 hcz29_6 hfz29_0 hfz29_1 hfz29_2 hfz29_3 hfz29_4 hfz29_5 hfz29_6
         try clear hcz32_0 hcz32_1 hcz32_2 hcz32_3 hcz32_4 hcz32_5 hcz32_6 hfz32_0 hfz32_1 hfz32_2 hfz32_3 hfz32_4 hfz32_5 hfz32_6
         try clear hcz36_0 hcz36_1 hcz36_2 hcz36_3 hcz36_4 hcz36_5 hcz36_6 hfz36_0 hfz36_1 hfz36_2 hfz36_3 hfz36_4 hfz36_5 hfz36_6
         try clear hcz9_0 hcz9_1 hcz9_2 hcz9_3 hcz9_4 hcz9_5 hcz9_6 hfz9_0 hfz9_1 hfz9_2 hfz9_3 hfz9_4 hfz9_5 hfz9_6
         try clear hx871_0
         try clear hx871_1
         try clear hx871_2
         try clear hx871_3
         try clear hx871_4
         try clear hx871_5
         try clear hx871_6
         try clear hx873_0
         try clear hx873_1
         try clear hx874_0
         try clear hx874_1
         try clear hx875_0
         try clear p871
         try clear p873
         try clear p874
         try clear p875
         try clear q871
         try clear q873
         try clear q874
         try clear q875
         obtain ⟨kq, x15_32, x16_32, x17_32, rfl, rfl, rfl, HA, HJ32, BK872, HB⟩ := hcut
         cases kq with
         | zero => exact absurd HA.out (by simp [whirligigref04_Of.j3])
         | succ kj32 =>
          have H := HA.out
          clear HA
          simp only [whirligigref04_Of.j3] at H
          by_cases c38 : x15_32 = 0
          ·rw [if_pos c38] at H
           have c38b0 := beq_iff_eq.mpr c38
           have c38b1 := bne_eq_false_iff_eq.mpr c38
           clear c38
           replace H := Option.bind_eq_some_iff.mp H
           obtain ⟨t882, A390, H⟩ := H
           (try dsimp -simprocs only at H)
           have A39 := Aside0.mk A390
           clear A390
           by_cases c40 : t882 = 0
           ·rw [if_pos c40] at H
            have c40b0 := beq_iff_eq.mpr c40
            have c40b1 := bne_eq_false_iff_eq.mpr c40
            clear c40
            simp only [Option.some.injEq, Prod.mk.injEq] at H
            obtain ⟨rfl, rfl, rfl⟩ := H
            obtain ⟨hcz41_0, hcz41_1, hcz41_2, hcz41_3, hcz41_4, hcz41_5, hcz41_6, hfz41_0, hfz41_1, hfz41_2, hfz41_3, hfz41_4, hfz41_5, hfz41_6⟩ := cells7 BK872.out
            go_wp2_with (first | (go_at_call 92; (with_reducible refine (whirligigref01_Result.calls kj32 ((rd_T159 l0 a1).f0) t876 x17_32 t882 _ A39.out).mono ?_); rintro e w' ⟨rfl, ⟨nd, rfl⟩⟩; (try exact qW)))
            repeat (go_quiet (first | (go_at_call 92; (with_reducible refine (whirligigref01_Result.calls kj32 ((rd_T159 l0 a1).f0) t876 x17_32 t882 _ A39.out).mono ?_); rintro e w' ⟨rfl, ⟨nd, rfl⟩⟩; (try exact qW))); try go_wp2_with (first | (go_at_call 92; (with_reducible refine (whirligigref01_Result.calls kj32 ((rd_T159 l0 a1).f0) t876 x17_32 t882 _ A39.out).mono ?_); rintro e w' ⟨rfl, ⟨nd, rfl⟩⟩; (try exact qW))))
            go_ret3
            exact ⟨qR, qB⟩
           ·rw [if_neg c40] at H
            have c40b0 := beq_eq_false_iff_ne.mpr c40
            have c40b1 := bne_iff_ne.mpr c40
            simp only [Option.some.injEq, Prod.mk.injEq] at H
            obtain ⟨rfl, rfl, rfl⟩ := H
            obtain ⟨hcz42_0, hcz42_1, hcz42_2, hcz42_3, hcz42_4, hcz42_5, hcz42_6, hfz42_0, hfz42_1, hfz42_2, hfz42_3, hfz42_4, hfz42_5, hfz42_6⟩ := cells7 BK872.out
            go_wp2_with (first | (go_at_call 92; (with_reducible refine (whirligigref01_Result.calls kj32 ((rd_T159 l0 a1).f0) t876 x17_32 t882 _ A39.out).mono ?_); rintro e w' ⟨rfl, ⟨nd, rfl⟩⟩; (try exact qW)))
            repeat (go_quiet (first | (go_at_call 92; (with_reducible refine (whirligigref01_Result.calls kj32 ((rd_T159 l0 a1).f0) t876 x17_32 t882 _ A39.out).mono ?_); rintro e w' ⟨rfl, ⟨nd, rfl⟩⟩; (try exact qW))); try go_wp2_with (first | (go_at_call 92; (with_reducible refine (whirligigref01_Result.calls kj32 ((rd_T159 l0 a1).f0) t876 x17_32 t882 _ A39.out).mono ?_); rintro e w' ⟨rfl, ⟨nd, rfl⟩⟩; (try exact qW))))
            go_ret3
            exact ⟨qR, qB⟩
          ·rw [if_neg c38] at H
           have c38b0 := beq_eq_false_iff_ne.mpr c38
           have c38b1 := bne_iff_ne.mpr c38
           simp only [Option.some.injEq, Prod.mk.injEq] at H
           obtain ⟨rfl, rfl, rfl⟩ := H
           go_wp2
           repeat (go_quiet (fail); try go_wp2)
           go_ret3
           exact ⟨qR, qB⟩
  ·rw [if_neg c6] at H
   exact absurd H (by simp)
 ·rw [if_neg c5] at H
  exact absurd H (by simp)
end Go.Proofs.YtbngfhlciebeeaaDoor.L
