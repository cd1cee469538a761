/- Printed and hand-written steps towards the row (EvalComes), those that it reaches. -/
import Derived.Test.YtbngfhlciebeeaaDoorEvalComesG3
import Derived.Test.YtbngfhlciebeeaaDoorEvalComesG4
import Derived.Test.YtbngfhlciebeeaaDoorEvalComesG10
import Derived.Test.YtbngfhlciebeeaaDoorEvalComesG21
import Derived.Test.YtbngfhlciebeeaaDoorEvalComesG24
import Derived.Test.YtbngfhlciebeeaaDoorEvalComesG23
namespace Go.Proofs.YtbngfhlciebeeaaDoor.L
open Go.RowKit Go.Proofs.YtbngfhlciebeeaaDoorW.PrintWords Go.Proofs.YtbngfhlciebeeaaDoorW.PrintLast Go.Proofs.YtbngfhlciebeeaaDoorW.PrintMore
attribute [local go_sem] max2_int min2_int max_two min_two max_three min_three max_four min_four   -- for this text's walks alone
set_option linter.unusedVariables false
set_option linter.unusedSimpArgs false
attribute [local go_sem high] eqA106
mutual
def whirligigref05_Eval.l0 : Nat → List (S166) → Int → Int → Int → Int → ByteArray → ByteArray → Int → Int → Option (Int × Int × ByteArray × Int)
 | 0, _, _, _, _, _, _, _, _, _ => none
 | k + 1, x2, x11, x1273000, x1273001, x1273002, x1273003, x1273004, x1273005, x1273006 => if x11 < (x2.length : Int) then (if 0 ≤ x11 then (if ((rd_T166 x2 x11).f0).toList = x1273004.toList then (some ((rd_T166 x2 x11).f1.f0, (rd_T166 x2 x11).f1.f1, (rd_T166 x2 x11).f1.f2, 0)) else (whirligigref05_Eval.l0 k x2 (wrap64 (x11 + 1)) x1273000 x1273001 x1273002 x1273003 x1273004 x1273005 x1273006)) else (none)) else (some (0, 0, (⟨#[]⟩ : ByteArray), 24))
def whirligigref05_Eval.l1 : Nat → List ByteArray → Int → Int → Int → Int → ByteArray → ByteArray → Int → Int → Option (Int × Int × ByteArray × Int)
 | 0, _, _, _, _, _, _, _, _, _ => none
 | k + 1, x3, x12, x1273000, x1273001, x1273002, x1273003, x1273004, x1273005, x1273006 => if x12 < (x3.length : Int) then (if 0 ≤ x12 then (if (rdOf ByteArray.empty x3 x12).toList = x1273004.toList then (some (2, 1, (⟨#[]⟩ : ByteArray), 0)) else (whirligigref05_Eval.l1 k x3 (wrap64 (x12 + 1)) x1273000 x1273001 x1273002 x1273003 x1273004 x1273005 x1273006)) else (none)) else (some (2, 0, (⟨#[]⟩ : ByteArray), 0))
def whirligigref05_Eval.j3 : Nat → Int → Int → Int → ByteArray → ByteArray → Int → Int → Int → Int → ByteArray → Int → Int → ByteArray → Option (Int × Int × ByteArray × Int)
 | 0, _, _, _, _, _, _, _, _, _, _, _, _, _ => none
 | k + 1, x1273000, x1273001, x1273002, x1273003, x1273004, x1273005, x1273006, x1281000, x1281001, x1281002, x1282000, x1282001, x1282002 => (whirligigref01_Result.f k x1273000 x1281000 x1282000).bind fun t1286 => (if t1286 = 0 then (some (0, 0, (⟨#[]⟩ : ByteArray), 20)) else ((whirligigref01_Reckon.f k x1273000 x1281000 x1281001 x1281002 x1282000 x1282001 x1282002).bind fun bt1287 => (some (bt1287.1, bt1287.2.1, bt1287.2.2.1, bt1287.2.2.2))))
def whirligigref05_Eval.j2 : Nat → List (S159) → List (S166) → List ByteArray → Bool → Int → Int → Int → ByteArray → ByteArray → Int → Int → Int → Int → ByteArray → Option (Int × Int × ByteArray × Int)
 | 0, _, _, _, _, _, _, _, _, _, _, _, _, _, _ => none
 | k + 1, x0, x2, x3, x100, x1273000, x1273001, x1273002, x1273003, x1273004, x1273005, x1273006, x1281000, x1281001, x1281002 => if x100 = true then (some (x1281000, x1281001, x1281002, 0)) else ((whirligigref05_Eval.f k x0 x1273006 x2 x3).bind fun bt1282 => (if bt1282.2.2.2 = 0 then (whirligigref05_Eval.j3 k x1273000 x1273001 x1273002 x1273003 x1273004 x1273005 x1273006 x1281000 x1281001 x1281002 bt1282.1 bt1282.2.1 bt1282.2.2.1) else (some (0, 0, (⟨#[]⟩ : ByteArray), bt1282.2.2.2))))
def whirligigref05_Eval.f : Nat → List (S159) → Int → List (S166) → List ByteArray → Option (Int × Int × ByteArray × Int)
 | 0, _, _, _, _ => none
 | k + 1, l0, a1, l2, l3 => if 0 ≤ a1 then (if a1 < (l0.length : Int) then (if ((rd_T159 l0 a1).f0) = 0 then (some ((rd_T159 l0 a1).f1.f0, (rd_T159 l0 a1).f1.f1, (rd_T159 l0 a1).f1.f2, 0)) else (if ((rd_T159 l0 a1).f0) = 16 then (whirligigref05_Eval.l0 k l2 0 ((rd_T159 l0 a1).f0) ((rd_T159 l0 a1).f1.f0) ((rd_T159 l0 a1).f1.f1) ((rd_T159 l0 a1).f1.f2) ((rd_T159 l0 a1).f2) ((rd_T159 l0 a1).f3) ((rd_T159 l0 a1).f4)) else (if ((rd_T159 l0 a1).f0) = 17 then (whirligigref05_Eval.l1 k l3 0 ((rd_T159 l0 a1).f0) ((rd_T159 l0 a1).f1.f0) ((rd_T159 l0 a1).f1.f1) ((rd_T159 l0 a1).f1.f2) ((rd_T159 l0 a1).f2) ((rd_T159 l0 a1).f3) ((rd_T159 l0 a1).f4)) else ((whirligigref05_Eval.f k l0 ((rd_T159 l0 a1).f3) l2 l3).bind fun bt1276 => (if bt1276.2.2.2 = 0 then (if ((rd_T159 l0 a1).f0) > 2 then (if ((rd_T159 l0 a1).f0) = 14 then (if (bt1276.1 == 2 && (bt1276.2.1 == 0 && (bt1276.2.2.1.toList == ([] : List UInt8)))) = true then (whirligigref05_Eval.j2 k l0 l2 l3 true ((rd_T159 l0 a1).f0) ((rd_T159 l0 a1).f1.f0) ((rd_T159 l0 a1).f1.f1) ((rd_T159 l0 a1).f1.f2) ((rd_T159 l0 a1).f2) ((rd_T159 l0 a1).f3) ((rd_T159 l0 a1).f4) bt1276.1 bt1276.2.1 bt1276.2.2.1) else (if ((rd_T159 l0 a1).f0) = 15 then (whirligigref05_Eval.j2 k l0 l2 l3 (bt1276.1 == 2 && (bt1276.2.1 == 1 && (bt1276.2.2.1.toList == ([] : List UInt8)))) ((rd_T159 l0 a1).f0) ((rd_T159 l0 a1).f1.f0) ((rd_T159 l0 a1).f1.f1) ((rd_T159 l0 a1).f1.f2) ((rd_T159 l0 a1).f2) ((rd_T159 l0 a1).f3) ((rd_T159 l0 a1).f4) bt1276.1 bt1276.2.1 bt1276.2.2.1) else (whirligigref05_Eval.j2 k l0 l2 l3 false ((rd_T159 l0 a1).f0) ((rd_T159 l0 a1).f1.f0) ((rd_T159 l0 a1).f1.f1) ((rd_T159 l0 a1).f1.f2) ((rd_T159 l0 a1).f2) ((rd_T159 l0 a1).f3) ((rd_T159 l0 a1).f4) bt1276.1 bt1276.2.1 bt1276.2.2.1))) else (if ((rd_T159 l0 a1).f0) = 15 then (whirligigref05_Eval.j2 k l0 l2 l3 (bt1276.1 == 2 && (bt1276.2.1 == 1 && (bt1276.2.2.1.toList == ([] : List UInt8)))) ((rd_T159 l0 a1).f0) ((rd_T159 l0 a1).f1.f0) ((rd_T159 l0 a1).f1.f1) ((rd_T159 l0 a1).f1.f2) ((rd_T159 l0 a1).f2) ((rd_T159 l0 a1).f3) ((rd_T159 l0 a1).f4) bt1276.1 bt1276.2.1 bt1276.2.2.1) else (whirligigref05_Eval.j2 k l0 l2 l3 false ((rd_T159 l0 a1).f0) ((rd_T159 l0 a1).f1.f0) ((rd_T159 l0 a1).f1.f1) ((rd_T159 l0 a1).f1.f2) ((rd_T159 l0 a1).f2) ((rd_T159 l0 a1).f3) ((rd_T159 l0 a1).f4) bt1276.1 bt1276.2.1 bt1276.2.2.1))) else (whirligigref05_Eval.j3 k ((rd_T159 l0 a1).f0) ((rd_T159 l0 a1).f1.f0) ((rd_T159 l0 a1).f1.f1) ((rd_T159 l0 a1).f1.f2) ((rd_T159 l0 a1).f2) ((rd_T159 l0 a1).f3) ((rd_T159 l0 a1).f4) bt1276.1 bt1276.2.1 bt1276.2.2.1 0 0 (⟨#[]⟩ : ByteArray))) else (some (0, 0, (⟨#[]⟩ : ByteArray), bt1276.2.2.2))))))) else (none)) else (none)
end
set_option maxHeartbeats 8000000 in
set_option maxRecDepth 100000 in
theorem whirligigref05_Eval.calls (k : Nat) : ∀ (A0 : Option Addr) (c0 : Nat) (l0 : List (S159)) (a1 : Int) (A2 : Option Addr) (c2 : Nat) (l2 : List (S166)) (A3 : Option Addr) (c3 : Nat) (l3 : List ByteArray) (r1 : Int) (r2 : Int) (r3 : ByteArray) (r4 : Int) (w : World) (hr0 : Kd.C k159 w A0 l0.length l0) (hc0 : l0.length ≤ c0) (hr2 : Kd.C k166 w A2 l2.length l2) (hc2 : l2.length ≤ c2) (hr3 : Kd.C Kd.string w A3 l3.length l3) (hc3 : l3.length ≤ c3) (h : whirligigref05_Eval.f k l0 a1 l2 l3 = some (r1, r2, r3, r4)),
  Calls Tryd.prog 62 #[.slice A0 l0.length c0, .int .i64 a1, .slice A2 l2.length c2, .slice A3 l3.length c3] w fun e w' => e = .returned (.tuple #[.agg #[.int .i64 r1, .int .i64 r2, .string r3], .int .i64 r4]) ∧ Below w.heap.size w w' := by
 induction k using Nat.strongRecOn with
 | _ k ih =>
 intro A0 c0 l0 a1 A2 c2 l2 A3 c3 l3 r1 r2 r3 r4 w hr0 hc0 hr2 hc2 hr3 hc3 h
 cases k with
 | zero => exact absurd h (by simp [whirligigref05_Eval.f])
 | succ k =>
 simp only [whirligigref05_Eval.f] at h
 have hu106 := Tryd.underlying106
 have hu159 := Tryd.underlying159
 have HR0 := Aside0.mk hr0
 have HC0 := Aside0.mk hc0
 clear hr0 hc0
 have HR2 := Aside0.mk hr2
 have HC2 := Aside0.mk hc2
 clear hr2 hc2
 have HR3 := Aside0.mk hr3
 have HC3 := Aside0.mk hc3
 clear hr3 hc3
 have HB := Aside0.mk (Below.refl w.heap.size w)
 have H : (if 0 ≤ a1 then (if a1 < (l0.length : Int) then (if ((rd_T159 l0 a1).f0) = 0 then (some ((rd_T159 l0 a1).f1.f0, (rd_T159 l0 a1).f1.f1, (rd_T159 l0 a1).f1.f2, 0)) else (if ((rd_T159 l0 a1).f0) = 16 then (whirligigref05_Eval.l0 k l2 0 ((rd_T159 l0 a1).f0) ((rd_T159 l0 a1).f1.f0) ((rd_T159 l0 a1).f1.f1) ((rd_T159 l0 a1).f1.f2) ((rd_T159 l0 a1).f2) ((rd_T159 l0 a1).f3) ((rd_T159 l0 a1).f4)) else (if ((rd_T159 l0 a1).f0) = 17 then (whirligigref05_Eval.l1 k l3 0 ((rd_T159 l0 a1).f0) ((rd_T159 l0 a1).f1.f0) ((rd_T159 l0 a1).f1.f1) ((rd_T159 l0 a1).f1.f2) ((rd_T159 l0 a1).f2) ((rd_T159 l0 a1).f3) ((rd_T159 l0 a1).f4)) else ((whirligigref05_Eval.f k l0 ((rd_T159 l0 a1).f3) l2 l3).bind fun bt1276 => (if bt1276.2.2.2 = 0 then (if ((rd_T159 l0 a1).f0) > 2 then (if ((rd_T159 l0 a1).f0) = 14 then (if (bt1276.1 == 2 && (bt1276.2.1 == 0 && (bt1276.2.2.1.toList == ([] : List UInt8)))) = true then (whirligigref05_Eval.j2 k l0 l2 l3 true ((rd_T159 l0 a1).f0) ((rd_T159 l0 a1).f1.f0) ((rd_T159 l0 a1).f1.f1) ((rd_T159 l0 a1).f1.f2) ((rd_T159 l0 a1).f2) ((rd_T159 l0 a1).f3) ((rd_T159 l0 a1).f4) bt1276.1 bt1276.2.1 bt1276.2.2.1) else (if ((rd_T159 l0 a1).f0) = 15 then (whirligigref05_Eval.j2 k l0 l2 l3 (bt1276.1 == 2 && (bt1276.2.1 == 1 && (bt1276.2.2.1.toList == ([] : List UInt8)))) ((rd_T159 l0 a1).f0) ((rd_T159 l0 a1).f1.f0) ((rd_T159 l0 a1).f1.f1) ((rd_T159 l0 a1).f1.f2) ((rd_T159 l0 a1).f2) ((rd_T159 l0 a1).f3) ((rd_T159 l0 a1).f4) bt1276.1 bt1276.2.1 bt1276.2.2.1) else (whirligigref05_Eval.j2 k l0 l2 l3 false ((rd_T159 l0 a1).f0) ((rd_T159 l0 a1).f1.f0) ((rd_T159 l0 a1).f1.f1) ((rd_T159 l0 a1).f1.f2) ((rd_T159 l0 a1).f2) ((rd_T159 l0 a1).f3) ((rd_T159 l0 a1).f4) bt1276.1 bt1276.2.1 bt1276.2.2.1))) else (if ((rd_T159 l0 a1).f0) = 15 then (whirligigref05_Eval.j2 k l0 l2 l3 (bt1276.1 == 2 && (bt1276.2.1 == 1 && (bt1276.2.2.1.toList == ([] : List UInt8)))) ((rd_T159 l0 a1).f0) ((rd_T159 l0 a1).f1.f0) ((rd_T159 l0 a1).f1.f1) ((rd_T159 l0 a1).f1.f2) ((rd_T159 l0 a1).f2) ((rd_T159 l0 a1).f3) ((rd_T159 l0 a1).f4) bt1276.1 bt1276.2.1 bt1276.2.2.1) else (whirligigref05_Eval.j2 k l0 l2 l3 false ((rd_T159 l0 a1).f0) ((rd_T159 l0 a1).f1.f0) ((rd_T159 l0 a1).f1.f1) ((rd_T159 l0 a1).f1.f2) ((rd_T159 l0 a1).f2) ((rd_T159 l0 a1).f3) ((rd_T159 l0 a1).f4) bt1276.1 bt1276.2.1 bt1276.2.2.1))) else (whirligigref05_Eval.j3 k ((rd_T159 l0 a1).f0) ((rd_T159 l0 a1).f1.f0) ((rd_T159 l0 a1).f1.f1) ((rd_T159 l0 a1).f1.f2) ((rd_T159 l0 a1).f2) ((rd_T159 l0 a1).f3) ((rd_T159 l0 a1).f4) bt1276.1 bt1276.2.1 bt1276.2.2.1 0 0 (⟨#[]⟩ : ByteArray))) else (some (0, 0, (⟨#[]⟩ : ByteArray), bt1276.2.2.2))))))) else (none)) else (none)) = some (r1, r2, r3, r4) := h
 clear h
 by_cases c5 : 0 ≤ a1
 ·rw [if_pos c5] at H
  have c5b0 := decide_eq_true c5
  clear c5
  by_cases c6 : a1 < (l0.length : Int)
  ·rw [if_pos c6] at H
   have c6b0 := decide_eq_true c6
   clear c6
   by_cases c7 : ((rd_T159 l0 a1).f0) = 0
   ·rw [if_pos c7] at H
    have c7b0 := beq_iff_eq.mpr c7
    have c7b1 := bne_eq_false_iff_eq.mpr c7
    clear c7
    simp only [Option.some.injEq, Prod.mk.injEq] at H
    obtain ⟨rfl, rfl, rfl, rfl⟩ := H
    go_enter Tryd.func62, Tryd.ntmps62
    go_wp2_with (first | ((with_reducible refine gd 8 rfl ?_); refine bxx 8 #[.int .i64 0, .int .i64 0, .string (⟨#[]⟩ : ByteArray)] 106 ?_; intro gb1270 w8 BK1270 GW1270 HB; have p1271 : 0 ≤ (a1 : Int) := qD; have q1271 : a1 < (l0.length : Int) := qD; obtain ⟨ad1271, e1271, hx1271_0, hx1271_1, hx1271_2, hx1271_3, hx1271_4, hx1271_5, hx1271_6⟩ := at_T159 HR0.out a1 p1271 q1271; cases e1271; replace hx1271_0 := pw_cell_below HB.out hx1271_0; replace hx1271_1 := pw_cell_below HB.out hx1271_1; replace hx1271_2 := pw_cell_below HB.out hx1271_2; replace hx1271_3 := pw_cell_below HB.out hx1271_3; replace hx1271_4 := pw_cell_below HB.out hx1271_4; replace hx1271_5 := pw_cell_below HB.out hx1271_5; replace hx1271_6 := pw_cell_below HB.out hx1271_6; replace p1271 := eq_true p1271; replace q1271 := eq_true q1271) | ((with_reducible refine gd 10 rfl ?_); refine bx 10 #[.int .i64 0, .int .i64 0, .int .i64 0, .string (⟨#[]⟩ : ByteArray), .string (⟨#[]⟩ : ByteArray), .int .i64 0, .int .i64 0] 159 ?_; intro gb1272 hg w9 hbox hb; have BK1272 := Aside0.mk (hbox); have GW1272 := geS hg; have GE1272 := geS hg; have NB1270_1272 := neS gb1270 hg; have NB1272_1270 := neT gb1270 hg; replace BK1270 := kb gb1270 hb; replace HB := bst hb; clear hb hbox hg; have := NB1272_1270.out; have := NB1270_1272.out; obtain ⟨_, _, _, _, _, _, _, _, _, _, _, _, _, _⟩ := cells7 BK1272.out; obtain ⟨_, _, _, _, _, _⟩ := cells3 BK1270.out))
    repeat (go_quiet (first | ((with_reducible refine gd 8 rfl ?_); refine bxx 8 #[.int .i64 0, .int .i64 0, .string (⟨#[]⟩ : ByteArray)] 106 ?_; intro gb1270 w8 BK1270 GW1270 HB; have p1271 : 0 ≤ (a1 : Int) := qD; have q1271 : a1 < (l0.length : Int) := qD; obtain ⟨ad1271, e1271, hx1271_0, hx1271_1, hx1271_2, hx1271_3, hx1271_4, hx1271_5, hx1271_6⟩ := at_T159 HR0.out a1 p1271 q1271; cases e1271; replace hx1271_0 := pw_cell_below HB.out hx1271_0; replace hx1271_1 := pw_cell_below HB.out hx1271_1; replace hx1271_2 := pw_cell_below HB.out hx1271_2; replace hx1271_3 := pw_cell_below HB.out hx1271_3; replace hx1271_4 := pw_cell_below HB.out hx1271_4; replace hx1271_5 := pw_cell_below HB.out hx1271_5; replace hx1271_6 := pw_cell_below HB.out hx1271_6; replace p1271 := eq_true p1271; replace q1271 := eq_true q1271) | ((with_reducible refine gd 10 rfl ?_); refine bx 10 #[.int .i64 0, .int .i64 0, .int .i64 0, .string (⟨#[]⟩ : ByteArray), .string (⟨#[]⟩ : ByteArray), .int .i64 0, .int .i64 0] 159 ?_; intro gb1272 hg w9 hbox hb; have BK1272 := Aside0.mk (hbox); have GW1272 := geS hg; have GE1272 := geS hg; have NB1270_1272 := neS gb1270 hg; have NB1272_1270 := neT gb1270 hg; replace BK1270 := kb gb1270 hb; replace HB := bst hb; clear hb hbox hg; have := NB1272_1270.out; have := NB1270_1272.out; obtain ⟨_, _, _, _, _, _, _, _, _, _, _, _, _, _⟩ := cells7 BK1272.out; obtain ⟨_, _, _, _, _, _⟩ := cells3 BK1270.out)); try go_wp2_with (first | ((with_reducible refine gd 8 rfl ?_); refine bxx 8 #[.int .i64 0, .int .i64 0, .string (⟨#[]⟩ : ByteArray)] 106 ?_; intro gb1270 w8 BK1270 GW1270 HB; have p1271 : 0 ≤ (a1 : Int) := qD; have q1271 : a1 < (l0.length : Int) := qD; obtain ⟨ad1271, e1271, hx1271_0, hx1271_1, hx1271_2, hx1271_3, hx1271_4, hx1271_5, hx1271_6⟩ := at_T159 HR0.out a1 p1271 q1271; cases e1271; replace hx1271_0 := pw_cell_below HB.out hx1271_0; replace hx1271_1 := pw_cell_below HB.out hx1271_1; replace hx1271_2 := pw_cell_below HB.out hx1271_2; replace hx1271_3 := pw_cell_below HB.out hx1271_3; replace hx1271_4 := pw_cell_below HB.out hx1271_4; replace hx1271_5 := pw_cell_below HB.out hx1271_5; replace hx1271_6 := pw_cell_below HB.out hx1271_6; replace p1271 := eq_true p1271; replace q1271 := eq_true q1271) | ((with_reducible refine gd 10 rfl ?_); refine bx 10 #[.int .i64 0, .int .i64 0, .int .i64 0, .string (⟨#[]⟩ : ByteArray), .string (⟨#[]⟩ : ByteArray), .int .i64 0, .int .i64 0] 159 ?_; intro gb1272 hg w9 hbox hb; have BK1272 := Aside0.mk (hbox); have GW1272 := geS hg; have GE1272 := geS hg; have NB1270_1272 := neS gb1270 hg; have NB1272_1270 := neT gb1270 hg; replace BK1270 := kb gb1270 hb; replace HB := bst hb; clear hb hbox hg; have := NB1272_1270.out; have := NB1270_1272.out; obtain ⟨_, _, _, _, _, _, _, _, _, _, _, _, _, _⟩ := cells7 BK1272.out; obtain ⟨_, _, _, _, _, _⟩ := cells3 BK1270.out)))
    refine rct gb1270 106 #[.int .i64 ((rd_T159 l0 a1).f1.f0), .int .i64 ((rd_T159 l0 a1).f1.f1), .string ((rd_T159 l0 a1).f1.f2)] Tryd.underlying106 ?_
    exact ⟨qR, qB⟩
   rw [if_neg c7] at H
   have c7b0 := beq_eq_false_iff_ne.mpr c7
   have c7b1 := bne_iff_ne.mpr c7
   by_cases c13 : ((rd_T159 l0 a1).f0) = 16
   ·rw [if_pos c13] at H
    have c13b0 := beq_iff_eq.mpr c13
    have c13b1 := bne_eq_false_iff_eq.mpr c13
    clear c13
    have H' := Aside0.mk H
    clear H
    go_enter Tryd.func62, Tryd.ntmps62
    go_wp2_with (first | ((with_reducible refine gd 8 rfl ?_); refine bxx 8 #[.int .i64 0, .int .i64 0, .string (⟨#[]⟩ : ByteArray)] 106 ?_; intro gb1270 w14 BK1270 GW1270 HB; have p1271 : 0 ≤ (a1 : Int) := qD; have q1271 : a1 < (l0.length : Int) := qD; obtain ⟨ad1271, e1271, hx1271_0, hx1271_1, hx1271_2, hx1271_3, hx1271_4, hx1271_5, hx1271_6⟩ := at_T159 HR0.out a1 p1271 q1271; cases e1271; replace hx1271_0 := pw_cell_below HB.out hx1271_0; replace hx1271_1 := pw_cell_below HB.out hx1271_1; replace hx1271_2 := pw_cell_below HB.out hx1271_2; replace hx1271_3 := pw_cell_below HB.out hx1271_3; replace hx1271_4 := pw_cell_below HB.out hx1271_4; replace hx1271_5 := pw_cell_below HB.out hx1271_5; replace hx1271_6 := pw_cell_below HB.out hx1271_6; replace p1271 := eq_true p1271; replace q1271 := eq_true q1271) | ((with_reducible refine gd 10 rfl ?_); refine bx 10 #[.int .i64 0, .int .i64 0, .int .i64 0, .string (⟨#[]⟩ : ByteArray), .string (⟨#[]⟩ : ByteArray), .int .i64 0, .int .i64 0] 159 ?_; intro gb1272 hg w15 hbox hb; have BK1272 := Aside0.mk (hbox); have GW1272 := geS hg; have GE1272 := geS hg; have NB1270_1272 := neS gb1270 hg; have NB1272_1270 := neT gb1270 hg; replace BK1270 := kb gb1270 hb; replace HB := bst hb; clear hb hbox hg; have := NB1272_1270.out; have := NB1270_1272.out; obtain ⟨_, _, _, _, _, _, _, _, _, _, _, _, _, _⟩ := cells7 BK1272.out))
    repeat (go_quiet (first | ((with_reducible refine gd 8 rfl ?_); refine bxx 8 #[.int .i64 0, .int .i64 0, .string (⟨#[]⟩ : ByteArray)] 106 ?_; intro gb1270 w14 BK1270 GW1270 HB; have p1271 : 0 ≤ (a1 : Int) := qD; have q1271 : a1 < (l0.length : Int) := qD; obtain ⟨ad1271, e1271, hx1271_0, hx1271_1, hx1271_2, hx1271_3, hx1271_4, hx1271_5, hx1271_6⟩ := at_T159 HR0.out a1 p1271 q1271; cases e1271; replace hx1271_0 := pw_cell_below HB.out hx1271_0; replace hx1271_1 := pw_cell_below HB.out hx1271_1; replace hx1271_2 := pw_cell_below HB.out hx1271_2; replace hx1271_3 := pw_cell_below HB.out hx1271_3; replace hx1271_4 := pw_cell_below HB.out hx1271_4; replace hx1271_5 := pw_cell_below HB.out hx1271_5; replace hx1271_6 := pw_cell_below HB.out hx1271_6; replace p1271 := eq_true p1271; replace q1271 := eq_true q1271) | ((with_reducible refine gd 10 rfl ?_); refine bx 10 #[.int .i64 0, .int .i64 0, .int .i64 0, .string (⟨#[]⟩ : ByteArray), .string (⟨#[]⟩ : ByteArray), .int .i64 0, .int .i64 0] 159 ?_; intro gb1272 hg w15 hbox hb; have BK1272 := Aside0.mk (hbox); have GW1272 := geS hg; have GE1272 := geS hg; have NB1270_1272 := neS gb1270 hg; have NB1272_1270 := neT gb1270 hg; replace BK1270 := kb gb1270 hb; replace HB := bst hb; clear hb hbox hg; have := NB1272_1270.out; have := NB1270_1272.out; obtain ⟨_, _, _, _, _, _, _, _, _, _, _, _, _, _⟩ := cells7 BK1272.out)); try go_wp2_with (first | ((with_reducible refine gd 8 rfl ?_); refine bxx 8 #[.int .i64 0, .int .i64 0, .string (⟨#[]⟩ : ByteArray)] 106 ?_; intro gb1270 w14 BK1270 GW1270 HB; have p1271 : 0 ≤ (a1 : Int) := qD; have q1271 : a1 < (l0.length : Int) := qD; obtain ⟨ad1271, e1271, hx1271_0, hx1271_1, hx1271_2, hx1271_3, hx1271_4, hx1271_5, hx1271_6⟩ := at_T159 HR0.out a1 p1271 q1271; cases e1271; replace hx1271_0 := pw_cell_below HB.out hx1271_0; replace hx1271_1 := pw_cell_below HB.out hx1271_1; replace hx1271_2 := pw_cell_below HB.out hx1271_2; replace hx1271_3 := pw_cell_below HB.out hx1271_3; replace hx1271_4 := pw_cell_below HB.out hx1271_4; replace hx1271_5 := pw_cell_below HB.out hx1271_5; replace hx1271_6 := pw_cell_below HB.out hx1271_6; replace p1271 := eq_true p1271; replace q1271 := eq_true q1271) | ((with_reducible refine gd 10 rfl ?_); refine bx 10 #[.int .i64 0, .int .i64 0, .int .i64 0, .string (⟨#[]⟩ : ByteArray), .string (⟨#[]⟩ : ByteArray), .int .i64 0, .int .i64 0] 159 ?_; intro gb1272 hg w15 hbox hb; have BK1272 := Aside0.mk (hbox); have GW1272 := geS hg; have GE1272 := geS hg; have NB1270_1272 := neS gb1270 hg; have NB1272_1270 := neT gb1270 hg; replace BK1270 := kb gb1270 hb; replace HB := bst hb; clear hb hbox hg; have := NB1272_1270.out; have := NB1270_1272.out; obtain ⟨_, _, _, _, _, _, _, _, _, _, _, _, _, _⟩ := cells7 BK1272.out)))
    go_loopg [11] k (fun kq v11 w' => ∃ (x11_1 : Int) (x1271000_1 : Int) (x1271001_1 : Int) (x1271002_1 : ByteArray), v11 = .int .i64 x11_1 ∧ Aside0 (whirligigref05_Eval.l0 kq l2 x11_1 ((rd_T159 l0 a1).f0) ((rd_T159 l0 a1).f1.f0) ((rd_T159 l0 a1).f1.f1) ((rd_T159 l0 a1).f1.f2) ((rd_T159 l0 a1).f2) ((rd_T159 l0 a1).f3) ((rd_T159 l0 a1).f4) = some (r1, r2, r3, r4)) ∧ Aside0 (kq ≤ k) ∧ Aside0 (w'.heap[gb1270]? = some (.cells #[.int .i64 x1271000_1, .int .i64 x1271001_1, .string x1271002_1] 106 (0, 0))) ∧ Aside0 (w'.heap[gb1272]? = some (.cells #[.int .i64 ((rd_T159 l0 a1).f0), .int .i64 ((rd_T159 l0 a1).f1.f0), .int .i64 ((rd_T159 l0 a1).f1.f1), .string ((rd_T159 l0 a1).f1.f2), .string ((rd_T159 l0 a1).f2), .int .i64 ((rd_T159 l0 a1).f3), .int .i64 ((rd_T159 l0 a1).f4)] 159 (0, 0))) ∧ Aside0 (Below w.heap.size w w'))
    case atStart => exact ⟨(0), (0), (0), ((⟨#[]⟩ : ByteArray)), qE, H', ⟨Nat.le_refl _⟩, ⟨qK⟩, ⟨qP⟩, ⟨qB⟩⟩
    case round =>
     clear H'
     try clear p1
     try clear q1
     try clear hx1
     try clear p2
     try clear p12
     try clear q12
     try clear hx12
     try clear hx1271_0
     try clear hx1271_1
     try clear hx1271_2
     try clear hx1271_3
     try clear hx1271_4
     try clear hx1271_5
     try clear hx1271_6
     try clear p1271
     try clear q1271
     obtain ⟨x11_1, x1271000_1, x1271001_1, x1271002_1, rfl, HA, HK1, BK1270, BK1272, HB⟩ := hrel; cases gk with
     | zero => exact absurd HA.out (by simp [whirligigref05_Eval.l0])
     | succ k1 =>
      have H := HA.out; clear HA; simp only [whirligigref05_Eval.l0] at H; replace H := iD H
      rcases H with ⟨c18b0, H⟩ | ⟨c18b0, H⟩
      ·by_cases c19 : 0 ≤ x11_1
       ·rw [if_pos c19] at H; have c19b0 := decide_eq_true c19; clear c19
        by_cases c20 : ((rd_T166 l2 x11_1).f0).toList = ((rd_T159 l0 a1).f2).toList
        ·rw [if_pos c20] at H; have c20b0 := beq_iff_eq.mpr c20; have c20b1 := bne_eq_false_iff_eq.mpr c20; clear c20; simp only [Option.some.injEq, Prod.mk.injEq] at H; obtain ⟨rfl, rfl, rfl, rfl⟩ := H; have p1273 : 0 ≤ (x11_1 : Int) := qD; have q1273 : x11_1 < (l2.length : Int) := qD; obtain ⟨ad1273, e1273, hx1273_0, hx1273_1, hx1273_2, hx1273_3⟩ := at_T166 (Kd.C_below HR2.out HB.out) x11_1 p1273 q1273; cases e1273; replace p1273 := eq_true p1273; replace q1273 := eq_true q1273; have := NB1272_1270.out; have := NB1270_1272.out; obtain ⟨_, _, _, _, _, _, _, _, _, _, _, _, _, _⟩ := cells7 BK1272.out; have p1274 : 0 ≤ (x11_1 : Int) := qD; have q1274 : x11_1 < (l2.length : Int) := qD; obtain ⟨ad1274, e1274, hx1274_0, hx1274_1, hx1274_2, hx1274_3⟩ := at_T166 HR2.out x11_1 p1274 q1274; obtain rfl : ad1273 = ad1274 := (by injection e1274); replace hx1274_0 := pw_cell_below HB.out hx1274_0; replace hx1274_1 := pw_cell_below HB.out hx1274_1; replace hx1274_2 := pw_cell_below HB.out hx1274_2; replace hx1274_3 := pw_cell_below HB.out hx1274_3; replace p1274 := eq_true p1274; replace q1274 := eq_true q1274; obtain ⟨_, _, _, _, _, _⟩ := cells3 BK1270.out
         go_wp2
         repeat (go_quiet (fail); try go_wp2)
         refine rct gb1270 106 #[.int .i64 ((rd_T166 l2 x11_1).f1.f0), .int .i64 ((rd_T166 l2 x11_1).f1.f1), .string ((rd_T166 l2 x11_1).f1.f2)] Tryd.underlying106 ?_; exact ⟨qR, qB⟩
        rw [if_neg c20] at H; have c20b0 := beq_eq_false_iff_ne.mpr c20; have c20b1 := bne_iff_ne.mpr c20; have H' := Aside0.mk H; clear H; have p1273 : 0 ≤ (x11_1 : Int) := qD; have q1273 : x11_1 < (l2.length : Int) := qD; obtain ⟨ad1273, e1273, hx1273_0, hx1273_1, hx1273_2, hx1273_3⟩ := at_T166 (Kd.C_below HR2.out HB.out) x11_1 p1273 q1273; cases e1273; replace p1273 := eq_true p1273; replace q1273 := eq_true q1273; have := NB1272_1270.out; have := NB1270_1272.out; obtain ⟨_, _, _, _, _, _, _, _, _, _, _, _, _, _⟩ := cells7 BK1272.out
        go_wp2
        repeat (go_quiet (fail); try go_wp2)
        go_roundg k1
        case measure => have := HK1.out; omega
        case rel => exact ⟨(wrap64 (x11_1 + 1)), (x1271000_1), (x1271001_1), (x1271002_1), qE, H', ⟨by have := HK1.out; omega⟩, ⟨qK⟩, ⟨qK⟩, ⟨qB⟩⟩
       rw [if_neg c19] at H; exact absurd H (by simp)
      simp only [Option.some.injEq, Prod.mk.injEq] at H; obtain ⟨rfl, rfl, rfl, rfl⟩ := H; have := NB1270_1272.out; have := NB1272_1270.out; obtain ⟨_, _, _, _, _, _⟩ := cells3 BK1270.out
      go_wp2
      repeat (go_quiet (fail); try go_wp2)
      refine rct gb1270 106 #[.int .i64 0, .int .i64 0, .string (⟨#[]⟩ : ByteArray)] Tryd.underlying106 ?_; exact ⟨qR, qB⟩
   rw [if_neg c13] at H
   have c13b0 := beq_eq_false_iff_ne.mpr c13
   have c13b1 := bne_iff_ne.mpr c13
   by_cases c28 : ((rd_T159 l0 a1).f0) = 17
   ·rw [if_pos c28] at H
    have c28b0 := beq_iff_eq.mpr c28
    have c28b1 := bne_eq_false_iff_eq.mpr c28
    clear c28
    have H' := Aside0.mk H
    clear H
    go_enter Tryd.func62, Tryd.ntmps62
    go_wp2_with (first | ((with_reducible refine gd 8 rfl ?_); refine bxx 8 #[.int .i64 0, .int .i64 0, .string (⟨#[]⟩ : ByteArray)] 106 ?_; intro gb1270 w29 BK1270 GW1270 HB; have p1271 : 0 ≤ (a1 : Int) := qD; have q1271 : a1 < (l0.length : Int) := qD; obtain ⟨ad1271, e1271, hx1271_0, hx1271_1, hx1271_2, hx1271_3, hx1271_4, hx1271_5, hx1271_6⟩ := at_T159 HR0.out a1 p1271 q1271; cases e1271; replace hx1271_0 := pw_cell_below HB.out hx1271_0; replace hx1271_1 := pw_cell_below HB.out hx1271_1; replace hx1271_2 := pw_cell_below HB.out hx1271_2; replace hx1271_3 := pw_cell_below HB.out hx1271_3; replace hx1271_4 := pw_cell_below HB.out hx1271_4; replace hx1271_5 := pw_cell_below HB.out hx1271_5; replace hx1271_6 := pw_cell_below HB.out hx1271_6; replace p1271 := eq_true p1271; replace q1271 := eq_true q1271) | ((with_reducible refine gd 10 rfl ?_); refine bx 10 #[.int .i64 0, .int .i64 0, .int .i64 0, .string (⟨#[]⟩ : ByteArray), .string (⟨#[]⟩ : ByteArray), .int .i64 0, .int .i64 0] 159 ?_; intro gb1272 hg w30 hbox hb; have BK1272 := Aside0.mk (hbox); have GW1272 := geS hg; have GE1272 := geS hg; have NB1270_1272 := neS gb1270 hg; have NB1272_1270 := neT gb1270 hg; replace BK1270 := kb gb1270 hb; replace HB := bst hb; clear hb hbox hg; have := NB1272_1270.out; have := NB1270_1272.out; obtain ⟨_, _, _, _, _, _, _, _, _, _, _, _, _, _⟩ := cells7 BK1272.out))
    repeat (go_quiet (first | ((with_reducible refine gd 8 rfl ?_); refine bxx 8 #[.int .i64 0, .int .i64 0, .string (⟨#[]⟩ : ByteArray)] 106 ?_; intro gb1270 w29 BK1270 GW1270 HB; have p1271 : 0 ≤ (a1 : Int) := qD; have q1271 : a1 < (l0.length : Int) := qD; obtain ⟨ad1271, e1271, hx1271_0, hx1271_1, hx1271_2, hx1271_3, hx1271_4, hx1271_5, hx1271_6⟩ := at_T159 HR0.out a1 p1271 q1271; cases e1271; replace hx1271_0 := pw_cell_below HB.out hx1271_0; replace hx1271_1 := pw_cell_below HB.out hx1271_1; replace hx1271_2 := pw_cell_below HB.out hx1271_2; replace hx1271_3 := pw_cell_below HB.out hx1271_3; replace hx1271_4 := pw_cell_below HB.out hx1271_4; replace hx1271_5 := pw_cell_below HB.out hx1271_5; replace hx1271_6 := pw_cell_below HB.out hx1271_6; replace p1271 := eq_true p1271; replace q1271 := eq_true q1271) | ((with_reducible refine gd 10 rfl ?_); refine bx 10 #[.int .i64 0, .int .i64 0, .int .i64 0, .string (⟨#[]⟩ : ByteArray), .string (⟨#[]⟩ : ByteArray), .int .i64 0, .int .i64 0] 159 ?_; intro gb1272 hg w30 hbox hb; have BK1272 := Aside0.mk (hbox); have GW1272 := geS hg; have GE1272 := geS hg; have NB1270_1272 := neS gb1270 hg; have NB1272_1270 := neT gb1270 hg; replace BK1270 := kb gb1270 hb; replace HB := bst hb; clear hb hbox hg; have := NB1272_1270.out; have := NB1270_1272.out; obtain ⟨_, _, _, _, _, _, _, _, _, _, _, _, _, _⟩ := cells7 BK1272.out)); try go_wp2_with (first | ((with_reducible refine gd 8 rfl ?_); refine bxx 8 #[.int .i64 0, .int .i64 0, .string (⟨#[]⟩ : ByteArray)] 106 ?_; intro gb1270 w29 BK1270 GW1270 HB; have p1271 : 0 ≤ (a1 : Int) := qD; have q1271 : a1 < (l0.length : Int) := qD; obtain ⟨ad1271, e1271, hx1271_0, hx1271_1, hx1271_2, hx1271_3, hx1271_4, hx1271_5, hx1271_6⟩ := at_T159 HR0.out a1 p1271 q1271; cases e1271; replace hx1271_0 := pw_cell_below HB.out hx1271_0; replace hx1271_1 := pw_cell_below HB.out hx1271_1; replace hx1271_2 := pw_cell_below HB.out hx1271_2; replace hx1271_3 := pw_cell_below HB.out hx1271_3; replace hx1271_4 := pw_cell_below HB.out hx1271_4; replace hx1271_5 := pw_cell_below HB.out hx1271_5; replace hx1271_6 := pw_cell_below HB.out hx1271_6; replace p1271 := eq_true p1271; replace q1271 := eq_true q1271) | ((with_reducible refine gd 10 rfl ?_); refine bx 10 #[.int .i64 0, .int .i64 0, .int .i64 0, .string (⟨#[]⟩ : ByteArray), .string (⟨#[]⟩ : ByteArray), .int .i64 0, .int .i64 0] 159 ?_; intro gb1272 hg w30 hbox hb; have BK1272 := Aside0.mk (hbox); have GW1272 := geS hg; have GE1272 := geS hg; have NB1270_1272 := neS gb1270 hg; have NB1272_1270 := neT gb1270 hg; replace BK1270 := kb gb1270 hb; replace HB := bst hb; clear hb hbox hg; have := NB1272_1270.out; have := NB1270_1272.out; obtain ⟨_, _, _, _, _, _, _, _, _, _, _, _, _, _⟩ := cells7 BK1272.out)))
    go_loopg [12] k (fun kq v12 w' => ∃ (x12_1 : Int) (x1271000_1 : Int) (x1271001_1 : Int) (x1271002_1 : ByteArray), v12 = .int .i64 x12_1 ∧ Aside0 (whirligigref05_Eval.l1 kq l3 x12_1 ((rd_T159 l0 a1).f0) ((rd_T159 l0 a1).f1.f0) ((rd_T159 l0 a1).f1.f1) ((rd_T159 l0 a1).f1.f2) ((rd_T159 l0 a1).f2) ((rd_T159 l0 a1).f3) ((rd_T159 l0 a1).f4) = some (r1, r2, r3, r4)) ∧ Aside0 (kq ≤ k) ∧ Aside0 (w'.heap[gb1270]? = some (.cells #[.int .i64 x1271000_1, .int .i64 x1271001_1, .string x1271002_1] 106 (0, 0))) ∧ Aside0 (w'.heap[gb1272]? = some (.cells #[.int .i64 ((rd_T159 l0 a1).f0), .int .i64 ((rd_T159 l0 a1).f1.f0), .int .i64 ((rd_T159 l0 a1).f1.f1), .string ((rd_T159 l0 a1).f1.f2), .string ((rd_T159 l0 a1).f2), .int .i64 ((rd_T159 l0 a1).f3), .int .i64 ((rd_T159 l0 a1).f4)] 159 (0, 0))) ∧ Aside0 (Below w.heap.size w w'))
    case atStart => exact ⟨(0), (0), (0), ((⟨#[]⟩ : ByteArray)), qE, H', ⟨Nat.le_refl _⟩, ⟨qK⟩, ⟨qP⟩, ⟨qB⟩⟩
    case round =>
     clear H'
     try clear p1 p1
     try clear q1 q1
     try clear hx1
     try clear p2 p2
     try clear p6
     try clear p12 p12
     try clear q12 q12
     try clear hx12
     try clear hx1271_0
     try clear hx1271_1
     try clear hx1271_2
     try clear hx1271_3
     try clear hx1271_4
     try clear hx1271_5
     try clear hx1271_6
     try clear hx1273_0
     try clear hx1273_1
     try clear hx1273_2
     try clear hx1273_3
     try clear hx1274_0
     try clear hx1274_1
     try clear hx1274_2
     try clear hx1274_3
     try clear p1271
     try clear p1273
     try clear p1274
     try clear q1271
     try clear q1273
     try clear q1274
     obtain ⟨x12_1, x1271000_1, x1271001_1, x1271002_1, rfl, HA, HK1, BK1270, BK1272, HB⟩ := hrel; cases gk with
     | zero => exact absurd HA.out (by simp [whirligigref05_Eval.l1])
     | succ k1 =>
      have H := HA.out; clear HA; simp only [whirligigref05_Eval.l1] at H; replace H := iD H
      rcases H with ⟨c33b0, H⟩ | ⟨c33b0, H⟩
      ·by_cases c34 : 0 ≤ x12_1
       ·rw [if_pos c34] at H; have c34b0 := decide_eq_true c34; clear c34
        by_cases c35 : (rdOf ByteArray.empty l3 x12_1).toList = ((rd_T159 l0 a1).f2).toList
        ·rw [if_pos c35] at H; have c35b0 := beq_iff_eq.mpr c35; have c35b1 := bne_eq_false_iff_eq.mpr c35; clear c35; simp only [Option.some.injEq, Prod.mk.injEq] at H; obtain ⟨rfl, rfl, rfl, rfl⟩ := H; have p1275 : 0 ≤ (x12_1 : Int) := qD; have q1275 : x12_1 < (l3.length : Int) := qD; obtain ⟨ad1275, e1275, hx1275_0⟩ := Kd.at_string HR3.out x12_1 p1275 q1275; cases e1275; replace hx1275_0 := pw_cell_below HB.out hx1275_0; replace p1275 := eq_true p1275; replace q1275 := eq_true q1275; have := NB1272_1270.out; have := NB1270_1272.out; obtain ⟨_, _, _, _, _, _, _, _, _, _, _, _, _, _⟩ := cells7 BK1272.out; obtain ⟨_, _, _, _, _, _⟩ := cells3 BK1270.out
         go_wp2
         repeat (go_quiet (fail); try go_wp2)
         refine rct gb1270 106 #[.int .i64 2, .int .i64 1, .string (⟨#[]⟩ : ByteArray)] Tryd.underlying106 ?_; exact ⟨qR, qB⟩
        rw [if_neg c35] at H; have c35b0 := beq_eq_false_iff_ne.mpr c35; have c35b1 := bne_iff_ne.mpr c35; have H' := Aside0.mk H; clear H; have p1275 : 0 ≤ (x12_1 : Int) := qD; have q1275 : x12_1 < (l3.length : Int) := qD; obtain ⟨ad1275, e1275, hx1275_0⟩ := Kd.at_string HR3.out x12_1 p1275 q1275; cases e1275; replace hx1275_0 := pw_cell_below HB.out hx1275_0; replace p1275 := eq_true p1275; replace q1275 := eq_true q1275; have := NB1272_1270.out; have := NB1270_1272.out; obtain ⟨_, _, _, _, _, _, _, _, _, _, _, _, _, _⟩ := cells7 BK1272.out
        go_wp2
        repeat (go_quiet (fail); try go_wp2)
        go_roundg k1
        case measure => have := HK1.out; omega
        case rel => exact ⟨(wrap64 (x12_1 + 1)), (x1271000_1), (x1271001_1), (x1271002_1), qE, H', ⟨by have := HK1.out; omega⟩, ⟨qK⟩, ⟨qK⟩, ⟨qB⟩⟩
       rw [if_neg c34] at H; exact absurd H (by simp)
      simp only [Option.some.injEq, Prod.mk.injEq] at H; obtain ⟨rfl, rfl, rfl, rfl⟩ := H; have := NB1270_1272.out; have := NB1272_1270.out; obtain ⟨_, _, _, _, _, _⟩ := cells3 BK1270.out
      go_wp2
      repeat (go_quiet (fail); try go_wp2)
      refine rct gb1270 106 #[.int .i64 2, .int .i64 0, .string (⟨#[]⟩ : ByteArray)] Tryd.underlying106 ?_; exact ⟨qR, qB⟩
   rw [if_neg c28] at H
   have c28b0 := beq_eq_false_iff_ne.mpr c28
   have c28b1 := bne_iff_ne.mpr c28
   replace H := Option.bind_eq_some_iff.mp H
   obtain ⟨⟨t1276, t1277, t1278, t1279⟩, A430, H⟩ := H
   (try dsimp -simprocs only at H)
   have A43 := Aside0.mk A430
   clear A430
   by_cases c44 : t1279 = 0
   ·rw [if_pos c44] at H
    have c44b0 := beq_iff_eq.mpr c44
    have c44b1 := bne_eq_false_iff_eq.mpr c44
    clear c44
    have HC45 := Aside0.mk H
    clear H
    go_enter Tryd.func62, Tryd.ntmps62
    go_upto_if 82 with (first | ((with_reducible refine gd 8 rfl ?_); refine bxx 8 #[.int .i64 0, .int .i64 0, .string (⟨#[]⟩ : ByteArray)] 106 ?_; intro gb1270 w46 BK1270 GW1270 HB; have p1271 : 0 ≤ (a1 : Int) := qD; have q1271 : a1 < (l0.length : Int) := qD; obtain ⟨ad1271, e1271, hx1271_0, hx1271_1, hx1271_2, hx1271_3, hx1271_4, hx1271_5, hx1271_6⟩ := at_T159 HR0.out a1 p1271 q1271; cases e1271; replace hx1271_0 := pw_cell_below HB.out hx1271_0; replace hx1271_1 := pw_cell_below HB.out hx1271_1; replace hx1271_2 := pw_cell_below HB.out hx1271_2; replace hx1271_3 := pw_cell_below HB.out hx1271_3; replace hx1271_4 := pw_cell_below HB.out hx1271_4; replace hx1271_5 := pw_cell_below HB.out hx1271_5; replace hx1271_6 := pw_cell_below HB.out hx1271_6; replace p1271 := eq_true p1271; replace q1271 := eq_true q1271) | ((with_reducible refine gd 10 rfl ?_); refine bx 10 #[.int .i64 0, .int .i64 0, .int .i64 0, .string (⟨#[]⟩ : ByteArray), .string (⟨#[]⟩ : ByteArray), .int .i64 0, .int .i64 0] 159 ?_; intro gb1272 hg w47 hbox hb; have BK1272 := Aside0.mk (hbox); have GW1272 := geS hg; have GE1272 := geS hg; have NB1270_1272 := neS gb1270 hg; have NB1272_1270 := neT gb1270 hg; replace BK1270 := kb gb1270 hb; replace HB := bst hb; clear hb hbox hg; have := NB1272_1270.out; have := NB1270_1272.out; obtain ⟨_, _, _, _, _, _, _, _, _, _, _, _, _, _⟩ := cells7 BK1272.out) | (go_at_call 62; (with_reducible refine (ih k (by omega) _ _ l0 ((rd_T159 l0 a1).f3) _ _ l2 _ _ l3 t1276 t1277 t1278 t1279 _ ?side1 ?side2 ?side3 ?side4 ?side5 ?side6 A43.out).mono ?_); (case side1 => exact Kd.C_below HR0.out qB); (case side2 => exact HC0.out); (case side3 => exact Kd.C_below HR2.out qB); (case side4 => exact HC2.out); (case side5 => exact Kd.C_below HR3.out qB); (case side6 => exact HC3.out); rintro e w50 ⟨rfl, hb⟩; replace BK1270 := kb gb1270 hb; replace BK1272 := kp gb1272 (.cells #[.int .i64 ((rd_T159 l0 a1).f0), .int .i64 ((rd_T159 l0 a1).f1.f0), .int .i64 ((rd_T159 l0 a1).f1.f1), .string ((rd_T159 l0 a1).f1.f2), .string ((rd_T159 l0 a1).f2), .int .i64 ((rd_T159 l0 a1).f3), .int .i64 ((rd_T159 l0 a1).f4)] 159 (0, 0)) hb; replace HB := bst hb; (try clear hb)) | ((with_reducible refine gd 13 rfl ?_); refine bx 13 #[.int .i64 0, .int .i64 0, .string (⟨#[]⟩ : ByteArray)] 106 ?_; intro gb1280 hg w51 hbox hb; have BK1280 := Aside0.mk (hbox); have GW1280 := geS hg; have GE1280 := geS hg; have NB1270_1280 := neS gb1270 hg; have NB1280_1270 := neT gb1270 hg; have NB1272_1280 := neS gb1272 hg; have NB1280_1272 := neT gb1272 hg; replace BK1270 := kb gb1270 hb; replace BK1272 := kb gb1272 hb; replace HB := bst hb; clear hb hbox hg; have := NB1280_1270.out; have := NB1270_1280.out; have := NB1280_1272.out; have := NB1272_1280.out; obtain ⟨_, _, _, _, _, _⟩ := cells3 BK1280.out) | ((with_reducible refine gd 15 rfl ?_); refine bx 15 #[.int .i64 0, .int .i64 0, .string (⟨#[]⟩ : ByteArray)] 106 ?_; intro gb1281 hg w55 hbox hb; have BK1281 := Aside0.mk (hbox); have GW1281 := geS hg; have GE1281 := geS hg; have NB1270_1281 := neS gb1270 hg; have NB1281_1270 := neT gb1270 hg; have NB1272_1281 := neS gb1272 hg; have NB1281_1272 := neT gb1272 hg; have NB1280_1281 := neS gb1280 hg; have NB1281_1280 := neT gb1280 hg; replace BK1270 := kb gb1270 hb; replace BK1272 := kb gb1272 hb; replace BK1280 := kp gb1280 (.cells #[.int .i64 t1276, .int .i64 t1277, .string t1278] 106 (0, 0)) hb; replace HB := bst hb; clear hb hbox hg; have := NB1281_1270.out; have := NB1270_1281.out; have := NB1281_1272.out; have := NB1272_1281.out; have := NB1281_1280.out; have := NB1280_1281.out; obtain ⟨_, _, _, _, _, _⟩ := cells3 BK1281.out; obtain ⟨_, _, _, _, _, _, _, _, _, _, _, _, _, _⟩ := cells7 BK1272.out))
    repeat (go_quiet (first | ((with_reducible refine gd 8 rfl ?_); refine bxx 8 #[.int .i64 0, .int .i64 0, .string (⟨#[]⟩ : ByteArray)] 106 ?_; intro gb1270 w46 BK1270 GW1270 HB; have p1271 : 0 ≤ (a1 : Int) := qD; have q1271 : a1 < (l0.length : Int) := qD; obtain ⟨ad1271, e1271, hx1271_0, hx1271_1, hx1271_2, hx1271_3, hx1271_4, hx1271_5, hx1271_6⟩ := at_T159 HR0.out a1 p1271 q1271; cases e1271; replace hx1271_0 := pw_cell_below HB.out hx1271_0; replace hx1271_1 := pw_cell_below HB.out hx1271_1; replace hx1271_2 := pw_cell_below HB.out hx1271_2; replace hx1271_3 := pw_cell_below HB.out hx1271_3; replace hx1271_4 := pw_cell_below HB.out hx1271_4; replace hx1271_5 := pw_cell_below HB.out hx1271_5; replace hx1271_6 := pw_cell_below HB.out hx1271_6; replace p1271 := eq_true p1271; replace q1271 := eq_true q1271) | ((with_reducible refine gd 10 rfl ?_); refine bx 10 #[.int .i64 0, .int .i64 0, .int .i64 0, .string (⟨#[]⟩ : ByteArray), .string (⟨#[]⟩ : ByteArray), .int .i64 0, .int .i64 0] 159 ?_; intro gb1272 hg w47 hbox hb; have BK1272 := Aside0.mk (hbox); have GW1272 := geS hg; have GE1272 := geS hg; have NB1270_1272 := neS gb1270 hg; have NB1272_1270 := neT gb1270 hg; replace BK1270 := kb gb1270 hb; replace HB := bst hb; clear hb hbox hg; have := NB1272_1270.out; have := NB1270_1272.out; obtain ⟨_, _, _, _, _, _, _, _, _, _, _, _, _, _⟩ := cells7 BK1272.out) | (go_at_call 62; (with_reducible refine (ih k (by omega) _ _ l0 ((rd_T159 l0 a1).f3) _ _ l2 _ _ l3 t1276 t1277 t1278 t1279 _ ?side1 ?side2 ?side3 ?side4 ?side5 ?side6 A43.out).mono ?_); (case side1 => exact Kd.C_below HR0.out qB); (case side2 => exact HC0.out); (case side3 => exact Kd.C_below HR2.out qB); (case side4 => exact HC2.out); (case side5 => exact Kd.C_below HR3.out qB); (case side6 => exact HC3.out); rintro e w50 ⟨rfl, hb⟩; replace BK1270 := kb gb1270 hb; replace BK1272 := kp gb1272 (.cells #[.int .i64 ((rd_T159 l0 a1).f0), .int .i64 ((rd_T159 l0 a1).f1.f0), .int .i64 ((rd_T159 l0 a1).f1.f1), .string ((rd_T159 l0 a1).f1.f2), .string ((rd_T159 l0 a1).f2), .int .i64 ((rd_T159 l0 a1).f3), .int .i64 ((rd_T159 l0 a1).f4)] 159 (0, 0)) hb; replace HB := bst hb; (try clear hb)) | ((with_reducible refine gd 13 rfl ?_); refine bx 13 #[.int .i64 0, .int .i64 0, .string (⟨#[]⟩ : ByteArray)] 106 ?_; intro gb1280 hg w51 hbox hb; have BK1280 := Aside0.mk (hbox); have GW1280 := geS hg; have GE1280 := geS hg; have NB1270_1280 := neS gb1270 hg; have NB1280_1270 := neT gb1270 hg; have NB1272_1280 := neS gb1272 hg; have NB1280_1272 := neT gb1272 hg; replace BK1270 := kb gb1270 hb; replace BK1272 := kb gb1272 hb; replace HB := bst hb; clear hb hbox hg; have := NB1280_1270.out; have := NB1270_1280.out; have := NB1280_1272.out; have := NB1272_1280.out; obtain ⟨_, _, _, _, _, _⟩ := cells3 BK1280.out) | ((with_reducible refine gd 15 rfl ?_); refine bx 15 #[.int .i64 0, .int .i64 0, .string (⟨#[]⟩ : ByteArray)] 106 ?_; intro gb1281 hg w55 hbox hb; have n0_ := kb gb1270 hb; have n1_ := kb gb1272 hb; have n2_ := kp gb1280 (.cells #[.int .i64 t1276, .int .i64 t1277, .string t1278] 106 (0, 0)) hb; have n3_ := bst hb; have n4_ := Aside0.mk (hbox); have n5_ := geS hg; have n6_ := geS hg; have n7_ := neS gb1270 hg; have n8_ := neT gb1270 hg; have n9_ := neS gb1272 hg; have n10_ := neT gb1272 hg; have n11_ := neS gb1280 hg; have n6_ := neT gb1270 hg; clear BK1270; clear HB; have BK1270 := n0_; have HB := n1_; have BK1272 := n2_; have GW1272 := n3_; have GE1272 := n4_; have NB1270_1272 := n5_; have NB1272_1270 := n6_; clear n0_ n1_ n2_ n3_ n4_ n5_ n6_; clear hb hbox hg; have := NB1272_1270.out; have := NB1270_1272.out; obtain ⟨_, _, _, _, _, _, _, _, _, _, _, _, _, _⟩ := cells7 BK1272.out) | (go_at_call 62; (with_reducible refine (ih k (by omega) _ _ l0 ((rd_T159 l0 a1).f3) _ _ l2 _ _ l3 t1276 t1277 t1278 t1279 _ ?side1 ?side2 ?side3 ?side4 ?side5 ?side6 A43.out).mono ?_); (case side1 => exact Kd.C_below HR0.out qB); (case side2 => exact HC0.out); (case side3 => exact Kd.C_below HR2.out qB); (case side4 => exact HC2.out); (case side5 => exact Kd.C_below HR3.out qB); (case side6 => exact HC3.out); rintro e w50 ⟨rfl, hb⟩; replace BK1270 := kb gb1270 hb; replace BK1272 := kp gb1272 (.cells #[.int .i64 ((rd_T159 l0 a1).f0), .int .i64 ((rd_T159 l0 a1).f1.f0), .int .i64 ((rd_T159 l0 a1).f1.f1), .string ((rd_T159 l0 a1).f1.f2), .string ((rd_T159 l0 a1).f2), .int .i64 ((rd_T159 l0 a1).f3), .int .i64 ((rd_T159 l0 a1).f4)] 159 (0, 0)) hb; replace HB := bst hb; (try clear hb)) | ((with_reducible refine gd 13 rfl ?_); refine bx 13 #[.int .i64 0, .int .i64 0, .string (⟨#[]⟩ : ByteArray)] 106 ?_; intro gb1280 hg w51 hbox hb; have BK1280 := Aside0.mk (hbox); have GW1280 := geS hg; have GE1280 := geS hg; have NB1270_1280 := neS gb1270 hg; have NB1280_1270 := neT gb1270 hg; have NB1272_1280 := neS gb1272 hg; have NB1280_1272 := neT gb1272 hg; replace BK1270 := kb gb1270 hb; replace BK1272 := kb gb1272 hb; replace HB := bst hb; clear hb hbox hg; have := NB1280_1270.out; have := NB1270_1280.out; have := NB1280_1272.out; have := NB1272_1280.out; obtain ⟨_, _, _, _, _, _⟩ := cells3 BK1280.out) | ((with_reducible refine gd 15 rfl ?_); refine bx 15 #[.int .i64 0, .int .i64 0, .string (⟨#[]⟩ : ByteArray)] 106 ?_; intro gb1281 hg w55 hbox hb; have BK1281 := Aside0.mk (hbox); have GW1281 := geS hg; have GE1281 := geS hg; have NB1270_1281 := neS gb1270 hg; have NB1281_1270 := neT gb1270 hg; have NB1272_1281 := neS gb1272 hg; have NB1281_1272 := neT gb1272 hg; have NB1280_1281 := neS gb1280 hg; have NB1281_1280 := neT gb1280 hg; replace BK1270 := kb gb1270 hb; replace BK1272 := kb gb1272 hb; replace BK1280 := kp gb1280 (.cells #[.int .i64 t1276, .int .i64 t1277, .string t1278] 106 (0, 0)) hb; replace HB := bst hb; clear hb hbox hg; have := NB1281_1270.out; have := NB1270_1281.out; have := NB1281_1272.out; have := NB1272_1281.out; have := NB1281_1280.out; have := NB1280_1281.out; obtain ⟨_, _, _, _, _, _⟩ := cells3 BK1281.out; obtain ⟨_, _, _, _, _, _, _, _, _, _, _, _, _, _⟩ := cells7 BK1272.out)))
    (try simp only [Act.put, List.setIfInBounds_toArray, List.set_cons_zero, List.set_cons_succ])
    go_cut [] (fun wc => ∃ (kq : Nat) (x1271000_44 : Int) (x1271001_44 : Int) (x1271002_44 : ByteArray) (x1282000_44 : Int) (x1282001_44 : Int) (x1282002_44 : ByteArray), Aside0 (whirligigref05_Eval.j3 kq ((rd_T159 l0 a1).f0) ((rd_T159 l0 a1).f1.f0) ((rd_T159 l0 a1).f1.f1) ((rd_T159 l0 a1).f1.f2) ((rd_T159 l0 a1).f2) ((rd_T159 l0 a1).f3) ((rd_T159 l0 a1).f4) t1276 t1277 t1278 x1282000_44 x1282001_44 x1282002_44 = some (r1, r2, r3, r4)) ∧ Aside0 (kq ≤ k) ∧ Aside0 (wc.heap[gb1270]? = some (.cells #[.int .i64 x1271000_44, .int .i64 x1271001_44, .string x1271002_44] 106 (0, 0))) ∧ Aside0 (wc.heap[gb1272]? = some (.cells #[.int .i64 ((rd_T159 l0 a1).f0), .int .i64 ((rd_T159 l0 a1).f1.f0), .int .i64 ((rd_T159 l0 a1).f1.f1), .string ((rd_T159 l0 a1).f1.f2), .string ((rd_T159 l0 a1).f2), .int .i64 ((rd_T159 l0 a1).f3), .int .i64 ((rd_T159 l0 a1).f4)] 159 (0, 0))) ∧ Aside0 (wc.heap[gb1280]? = some (.cells #[.int .i64 t1276, .int .i64 t1277, .string t1278] 106 (0, 0))) ∧ Aside0 (wc.heap[gb1281]? = some (.cells #[.int .i64 x1282000_44, .int .i64 x1282001_44, .string x1282002_44] 106 (0, 0))) ∧ Aside0 (Below w.heap.size w wc))
    case first =>
     have H := HC45.out; clear HC45
     by_cases c61 : ((rd_T159 l0 a1).f0) > 2
     ·rw [if_pos c61] at H; have c61b0 := decide_eq_true c61; clear c61; (first | rw [c61b0] | (simp only [i64_w, i32_w]; rw [c61b0]) | skip); have HC62 := Aside0.mk H; clear H
      go_upto_region 23 with (fail)
      repeat (go_quiet (fail); go_upto_region 23 with (fail))
      go_cut [100] (fun v100 wc => ∃ (kq : Nat) (x100_61 : Bool), v100 = .bool x100_61 ∧ Aside0 (whirligigref05_Eval.j2 kq l0 l2 l3 x100_61 ((rd_T159 l0 a1).f0) ((rd_T159 l0 a1).f1.f0) ((rd_T159 l0 a1).f1.f1) ((rd_T159 l0 a1).f1.f2) ((rd_T159 l0 a1).f2) ((rd_T159 l0 a1).f3) ((rd_T159 l0 a1).f4) t1276 t1277 t1278 = some (r1, r2, r3, r4)) ∧ Aside0 (kq ≤ k) ∧ Aside0 (wc.heap[gb1270]? = some (.cells #[.int .i64 0, .int .i64 0, .string (⟨#[]⟩ : ByteArray)] 106 (0, 0))) ∧ Aside0 (wc.heap[gb1272]? = some (.cells #[.int .i64 ((rd_T159 l0 a1).f0), .int .i64 ((rd_T159 l0 a1).f1.f0), .int .i64 ((rd_T159 l0 a1).f1.f1), .string ((rd_T159 l0 a1).f1.f2), .string ((rd_T159 l0 a1).f2), .int .i64 ((rd_T159 l0 a1).f3), .int .i64 ((rd_T159 l0 a1).f4)] 159 (0, 0))) ∧ Aside0 (wc.heap[gb1280]? = some (.cells #[.int .i64 t1276, .int .i64 t1277, .string t1278] 106 (0, 0))) ∧ Aside0 (wc.heap[gb1281]? = some (.cells #[.int .i64 0, .int .i64 0, .string (⟨#[]⟩ : ByteArray)] 106 (0, 0))) ∧ Aside0 (Below w.heap.size w wc))
      case first =>
       have H := HC62.out; clear HC62
       by_cases c63 : ((rd_T159 l0 a1).f0) = 14
       ·rw [if_pos c63] at H; have c63b0 := beq_iff_eq.mpr c63; have c63b1 := bne_eq_false_iff_eq.mpr c63; clear c63; (first | rw [c63b0] | (simp only [i64_w, i32_w]; rw [c63b0]) | skip)
        by_cases c64 : (t1276 == 2 && (t1277 == 0 && (t1278.toList == ([] : List UInt8)))) = true
        ·rw [if_pos c64] at H; have c64b0 : (t1276 == 2 && (t1277 == 0 && (t1278.toList == ([] : List UInt8)))) = true := c64; (try (have c64b1 : decide (t1276 = 2 && (t1277 == 0 && (t1278.toList == ([] : List UInt8)))) = true := by simpa using c64)); (try (have c64b2 : (t1276 == 2 && (t1277 == 0 && (t1278.toList == ([] : List UInt8)))) = true := by simpa using c64)); have c64n := c64b0; simp only [eq_nil_isEmpty] at c64n; clear c64; have H' := Aside0.mk H; clear H; have := NB1272_1270.out; have := NB1270_1272.out; have := NB1272_1280.out; have := NB1280_1272.out; have := NB1272_1281.out; have := NB1281_1272.out; obtain ⟨_, _, _, _, _, _, _, _, _, _, _, _, _, _⟩ := cells7 BK1272.out; have := NB1280_1270.out; have := NB1270_1280.out; have := NB1280_1281.out; have := NB1281_1280.out; obtain ⟨_, _, _, _, _, _⟩ := cells3 BK1280.out
         go_wp2
         repeat (go_quiet (fail); try go_wp2)
         go_meet
         case rel => exact ⟨_, (true), qE, H', ⟨by first | omega | exact Nat.le_refl _⟩, ⟨qK⟩, ⟨qK⟩, ⟨qK⟩, ⟨qP⟩, ⟨qB⟩⟩
        rw [if_neg c64] at H; have c64b0 : (t1276 == 2 && (t1277 == 0 && (t1278.toList == ([] : List UInt8)))) = false := by simpa using c64
        (try (have c64b1 : decide (t1276 = 2 && (t1277 == 0 && (t1278.toList == ([] : List UInt8)))) = false := by simpa using c64)); (try (have c64b2 : (t1276 == 2 && (t1277 == 0 && (t1278.toList == ([] : List UInt8)))) = false := by simpa using c64)); (try (have c64b3 : ¬ (t1276 = 2 && (t1277 == 0 && (t1278.toList == ([] : List UInt8)))) := by simpa using c64)); have c64n := c64b0; simp only [eq_nil_isEmpty] at c64n; clear c64
        by_cases c72 : ((rd_T159 l0 a1).f0) = 15
        ·rw [if_pos c72] at H; have c72b0 := beq_iff_eq.mpr c72; have c72b1 := bne_eq_false_iff_eq.mpr c72; clear c72; have H' := Aside0.mk H; clear H; have := NB1272_1270.out; have := NB1270_1272.out; have := NB1272_1280.out; have := NB1280_1272.out; have := NB1272_1281.out; have := NB1281_1272.out; obtain ⟨_, _, _, _, _, _, _, _, _, _, _, _, _, _⟩ := cells7 BK1272.out; have := NB1280_1270.out; have := NB1270_1280.out; have := NB1280_1281.out; have := NB1281_1280.out; obtain ⟨_, _, _, _, _, _⟩ := cells3 BK1280.out
         go_wp2
         repeat (go_quiet (fail); try go_wp2)
         go_meet
         case rel => exact ⟨_, ((t1276 == 2 && (t1277 == 1 && (t1278.toList == ([] : List UInt8))))), qE, H', ⟨by first | omega | exact Nat.le_refl _⟩, ⟨qK⟩, ⟨qK⟩, ⟨qK⟩, ⟨qP⟩, ⟨qB⟩⟩
        rw [if_neg c72] at H; have c72b0 := beq_eq_false_iff_ne.mpr c72; have c72b1 := bne_iff_ne.mpr c72; have H' := Aside0.mk H; clear H; have := NB1272_1270.out; have := NB1270_1272.out; have := NB1272_1280.out; have := NB1280_1272.out; have := NB1272_1281.out; have := NB1281_1272.out; obtain ⟨_, _, _, _, _, _, _, _, _, _, _, _, _, _⟩ := cells7 BK1272.out; have := NB1280_1270.out; have := NB1270_1280.out; have := NB1280_1281.out; have := NB1281_1280.out; obtain ⟨_, _, _, _, _, _⟩ := cells3 BK1280.out
        go_wp2
        repeat (go_quiet (fail); try go_wp2)
        go_meet
        case rel => exact ⟨_, (false), qE, H', ⟨by first | omega | exact Nat.le_refl _⟩, ⟨qK⟩, ⟨qK⟩, ⟨qK⟩, ⟨qP⟩, ⟨qB⟩⟩
       rw [if_neg c63] at H; have c63b0 := beq_eq_false_iff_ne.mpr c63; have c63b1 := bne_iff_ne.mpr c63; (first | rw [c63b0] | (simp only [i64_w, i32_w]; rw [c63b0]) | skip)
       by_cases c87 : ((rd_T159 l0 a1).f0) = 15
       ·rw [if_pos c87] at H; have c87b0 := beq_iff_eq.mpr c87; have c87b1 := bne_eq_false_iff_eq.mpr c87; clear c87; have H' := Aside0.mk H; clear H; have := NB1272_1270.out; have := NB1270_1272.out; have := NB1272_1280.out; have := NB1280_1272.out; have := NB1272_1281.out; have := NB1281_1272.out; obtain ⟨_, _, _, _, _, _, _, _, _, _, _, _, _, _⟩ := cells7 BK1272.out; have := NB1280_1270.out; have := NB1270_1280.out; have := NB1280_1281.out; have := NB1281_1280.out; obtain ⟨_, _, _, _, _, _⟩ := cells3 BK1280.out
        go_wp2
        repeat (go_quiet (fail); try go_wp2)
        go_meet
        case rel => exact ⟨_, ((t1276 == 2 && (t1277 == 1 && (t1278.toList == ([] : List UInt8))))), qE, H', ⟨by first | omega | exact Nat.le_refl _⟩, ⟨qK⟩, ⟨qK⟩, ⟨qK⟩, ⟨qP⟩, ⟨qB⟩⟩
       rw [if_neg c87] at H; have c87b0 := beq_eq_false_iff_ne.mpr c87; have c87b1 := bne_iff_ne.mpr c87; have H' := Aside0.mk H; clear H; have := NB1272_1270.out; have := NB1270_1272.out; have := NB1272_1280.out; have := NB1280_1272.out; have := NB1272_1281.out; have := NB1281_1272.out; obtain ⟨_, _, _, _, _, _, _, _, _, _, _, _, _, _⟩ := cells7 BK1272.out
       go_wp2
       repeat (go_quiet (fail); try go_wp2)
       go_meet
       case rel => exact ⟨_, (false), qE, H', ⟨by first | omega | exact Nat.le_refl _⟩, ⟨qK⟩, ⟨qK⟩, ⟨qK⟩, ⟨qP⟩, ⟨qB⟩⟩
      case rest =>
       clear HC62
       try clear p1 p1
       try clear q1 q1
       try clear hx1
       try clear p2 p2
       try clear p6 p6
       try clear p12 p12
       try clear q12 q12
       try clear hx12
       try clear p64
       try clear hx1271_0
       try clear hx1271_1
       try clear hx1271_2
       try clear hx1271_3
       try clear hx1271_4
       try clear hx1271_5
       try clear hx1271_6
       try clear hx1273_0
       try clear hx1273_1
       try clear hx1273_2
       try clear hx1273_3
       try clear hx1274_0
       try clear hx1274_1
       try clear hx1274_2
       try clear hx1274_3
       try clear hx1275_0
       try clear p1271
       try clear p1273
       try clear p1274
       try clear p1275
       try clear q1271
       try clear q1273
       try clear q1274
       try clear q1275
       obtain ⟨kq, x100_61, rfl, HA, HJ61, BK1270, BK1272, BK1280, BK1281, HB⟩ := hcut; cases kq with
       | zero => exact absurd HA.out (by simp [whirligigref05_Eval.j2])
       | succ kj61 =>
        have H := HA.out; clear HA; simp only [whirligigref05_Eval.j2] at H
        by_cases c99 : x100_61 = true
        ·subst c99; rw [if_pos rfl] at H; simp only [Option.some.injEq, Prod.mk.injEq] at H; obtain ⟨rfl, rfl, rfl, rfl⟩ := H; have := NB1280_1270.out; have := NB1270_1280.out; have := NB1280_1272.out; have := NB1272_1280.out; have := NB1280_1281.out; have := NB1281_1280.out; obtain ⟨_, _, _, _, _, _⟩ := cells3 BK1280.out; have := NB1270_1272.out; have := NB1272_1270.out; have := NB1270_1281.out; have := NB1281_1270.out; obtain ⟨_, _, _, _, _, _⟩ := cells3 BK1270.out
         go_wp2
         repeat (go_quiet (fail); try go_wp2)
         refine rct gb1270 106 #[.int .i64 t1276, .int .i64 t1277, .string t1278] Tryd.underlying106 ?_; exact ⟨qR, qB⟩
        replace c99 := Bool.eq_false_iff.mpr c99; subst c99; rw [if_neg (show ¬ (false = true) by decide)] at H; replace H := Option.bind_eq_some_iff.mp H; obtain ⟨⟨t1282, t1283, t1284, t1285⟩, A1070, H⟩ := H; (try dsimp -simprocs only at H); have A107 := Aside0.mk A1070; clear A1070
        by_cases c108 : t1285 = 0
        ·rw [if_pos c108] at H; have c108b0 := beq_iff_eq.mpr c108; have c108b1 := bne_eq_false_iff_eq.mpr c108; clear c108; have H' := Aside0.mk H; clear H; have := NB1272_1270.out; have := NB1270_1272.out; have := NB1272_1280.out; have := NB1280_1272.out; have := NB1272_1281.out; have := NB1281_1272.out; obtain ⟨_, _, _, _, _, _, _, _, _, _, _, _, _, _⟩ := cells7 BK1272.out
         go_wp2_with (first | (go_at_call 62; (with_reducible refine (ih kj61 (by have := HJ61.out; omega) _ _ l0 ((rd_T159 l0 a1).f4) _ _ l2 _ _ l3 t1282 t1283 t1284 t1285 _ ?side1 ?side2 ?side3 ?side4 ?side5 ?side6 A107.out).mono ?_); (case side1 => exact qC); (case side2 => exact HC0.out); (case side3 => exact qC); (case side4 => exact HC2.out); (case side5 => exact qC); (case side6 => exact HC3.out); rintro e w113 ⟨rfl, hb⟩; replace BK1270 := kb gb1270 hb; replace BK1272 := kb gb1272 hb; replace BK1280 := kb gb1280 hb; replace BK1281 := kb gb1281 hb; replace HB := bst hb; (try clear hb); have := NB1281_1270.out; have := NB1270_1281.out; have := NB1281_1280.out; have := NB1280_1281.out; obtain ⟨_, _, _, _, _, _⟩ := cells3 BK1281.out))
         repeat (go_quiet (first | (go_at_call 62; (with_reducible refine (ih kj61 (by have := HJ61.out; omega) _ _ l0 ((rd_T159 l0 a1).f4) _ _ l2 _ _ l3 t1282 t1283 t1284 t1285 _ ?side1 ?side2 ?side3 ?side4 ?side5 ?side6 A107.out).mono ?_); (case side1 => exact qC); (case side2 => exact HC0.out); (case side3 => exact qC); (case side4 => exact HC2.out); (case side5 => exact qC); (case side6 => exact HC3.out); rintro e w113 ⟨rfl, hb⟩; replace BK1270 := kb gb1270 hb; replace BK1272 := kb gb1272 hb; replace BK1280 := kb gb1280 hb; replace BK1281 := kb gb1281 hb; replace HB := bst hb; (try clear hb); have := NB1281_1270.out; have := NB1270_1281.out; have := NB1281_1280.out; have := NB1280_1281.out; obtain ⟨_, _, _, _, _, _⟩ := cells3 BK1281.out)); try go_wp2_with (first | (go_at_call 62; (with_reducible refine (ih kj61 (by have := HJ61.out; omega) _ _ l0 ((rd_T159 l0 a1).f4) _ _ l2 _ _ l3 t1282 t1283 t1284 t1285 _ ?side1 ?side2 ?side3 ?side4 ?side5 ?side6 A107.out).mono ?_); (case side1 => exact qC); (case side2 => exact HC0.out); (case side3 => exact qC); (case side4 => exact HC2.out); (case side5 => exact qC); (case side6 => exact HC3.out); rintro e w113 ⟨rfl, hb⟩; replace BK1270 := kb gb1270 hb; replace BK1272 := kb gb1272 hb; replace BK1280 := kb gb1280 hb; replace BK1281 := kb gb1281 hb; replace HB := bst hb; (try clear hb); have := NB1281_1270.out; have := NB1270_1281.out; have := NB1281_1280.out; have := NB1280_1281.out; obtain ⟨_, _, _, _, _, _⟩ := cells3 BK1281.out)))
         go_meet
         case rel => exact ⟨_, (0), (0), ((⟨#[]⟩ : ByteArray)), (t1282), (t1283), (t1284), H', ⟨by have := HJ61.out; first | omega | exact Nat.le_refl _⟩, ⟨qK⟩, ⟨qK⟩, ⟨qK⟩, ⟨qP⟩, ⟨qB⟩⟩
        rw [if_neg c108] at H; have c108b0 := beq_eq_false_iff_ne.mpr c108; have c108b1 := bne_iff_ne.mpr c108; simp only [Option.some.injEq, Prod.mk.injEq] at H; obtain ⟨rfl, rfl, rfl, rfl⟩ := H; have := NB1272_1270.out; have := NB1270_1272.out; have := NB1272_1280.out; have := NB1280_1272.out; have := NB1272_1281.out; have := NB1281_1272.out; obtain ⟨_, _, _, _, _, _, _, _, _, _, _, _, _, _⟩ := cells7 BK1272.out
        go_wp2_with (first | (go_at_call 62; (with_reducible refine (ih kj61 (by have := HJ61.out; omega) _ _ l0 ((rd_T159 l0 a1).f4) _ _ l2 _ _ l3 t1282 t1283 t1284 t1285 _ ?side1 ?side2 ?side3 ?side4 ?side5 ?side6 A107.out).mono ?_); (case side1 => exact qC); (case side2 => exact HC0.out); (case side3 => exact qC); (case side4 => exact HC2.out); (case side5 => exact qC); (case side6 => exact HC3.out); rintro e w121 ⟨rfl, hb⟩; replace BK1270 := kb gb1270 hb; replace BK1272 := kb gb1272 hb; replace BK1280 := kb gb1280 hb; replace BK1281 := kb gb1281 hb; replace HB := bst hb; (try clear hb); have := NB1281_1270.out; have := NB1270_1281.out; have := NB1281_1280.out; have := NB1280_1281.out; obtain ⟨_, _, _, _, _, _⟩ := cells3 BK1281.out; have := NB1270_1280.out; have := NB1280_1270.out; obtain ⟨_, _, _, _, _, _⟩ := cells3 BK1270.out))
        repeat (go_quiet (first | (go_at_call 62; (with_reducible refine (ih kj61 (by have := HJ61.out; omega) _ _ l0 ((rd_T159 l0 a1).f4) _ _ l2 _ _ l3 t1282 t1283 t1284 t1285 _ ?side1 ?side2 ?side3 ?side4 ?side5 ?side6 A107.out).mono ?_); (case side1 => exact qC); (case side2 => exact HC0.out); (case side3 => exact qC); (case side4 => exact HC2.out); (case side5 => exact qC); (case side6 => exact HC3.out); rintro e w121 ⟨rfl, hb⟩; replace BK1270 := kb gb1270 hb; replace BK1272 := kb gb1272 hb; replace BK1280 := kb gb1280 hb; replace BK1281 := kb gb1281 hb; replace HB := bst hb; (try clear hb); have := NB1281_1270.out; have := NB1270_1281.out; have := NB1281_1280.out; have := NB1280_1281.out; obtain ⟨_, _, _, _, _, _⟩ := cells3 BK1281.out; have := NB1270_1280.out; have := NB1280_1270.out; obtain ⟨_, _, _, _, _, _⟩ := cells3 BK1270.out)); try go_wp2_with (first | (go_at_call 62; (with_reducible refine (ih kj61 (by have := HJ61.out; omega) _ _ l0 ((rd_T159 l0 a1).f4) _ _ l2 _ _ l3 t1282 t1283 t1284 t1285 _ ?side1 ?side2 ?side3 ?side4 ?side5 ?side6 A107.out).mono ?_); (case side1 => exact qC); (case side2 => exact HC0.out); (case side3 => exact qC); (case side4 => exact HC2.out); (case side5 => exact qC); (case side6 => exact HC3.out); rintro e w121 ⟨rfl, hb⟩; replace BK1270 := kb gb1270 hb; replace BK1272 := kb gb1272 hb; replace BK1280 := kb gb1280 hb; replace BK1281 := kb gb1281 hb; replace HB := bst hb; (try clear hb); have := NB1281_1270.out; have := NB1270_1281.out; have := NB1281_1280.out; have := NB1280_1281.out; obtain ⟨_, _, _, _, _, _⟩ := cells3 BK1281.out; have := NB1270_1280.out; have := NB1280_1270.out; obtain ⟨_, _, _, _, _, _⟩ := cells3 BK1270.out)))
        refine rct gb1270 106 #[.int .i64 0, .int .i64 0, .string (⟨#[]⟩ : ByteArray)] Tryd.underlying106 ?_; exact ⟨qR, qB⟩
     rw [if_neg c61] at H; have c61b0 := decide_eq_false c61; clear c61; (first | rw [c61b0] | (simp only [i64_w, i32_w]; rw [c61b0]) | skip); have H' := Aside0.mk H; clear H
     go_wp2
     repeat (go_quiet (fail); try go_wp2)
     go_meet
     case rel => exact ⟨_, (0), (0), ((⟨#[]⟩ : ByteArray)), (0), (0), ((⟨#[]⟩ : ByteArray)), H', ⟨by first | omega | exact Nat.le_refl _⟩, ⟨qK⟩, ⟨qK⟩, ⟨qK⟩, ⟨qP⟩, ⟨qB⟩⟩
    case rest =>
     clear HC45
     try clear p1 p1
     try clear q1 q1
     try clear hx1
     try clear p2 p2
     try clear p6 p6
     try clear p12 p12
     try clear q12 q12
     try clear hx12
     try clear p64 p64
     try clear hx1271_0
     try clear hx1271_1
     try clear hx1271_2
     try clear hx1271_3
     try clear hx1271_4
     try clear hx1271_5
     try clear hx1271_6
     try clear hx1273_0
     try clear hx1273_1
     try clear hx1273_2
     try clear hx1273_3
     try clear hx1274_0
     try clear hx1274_1
     try clear hx1274_2
     try clear hx1274_3
     try clear hx1275_0
     try clear p1271
     try clear p1273
     try clear p1274
     try clear p1275
     try clear q1271
     try clear q1273
     try clear q1274
     try clear q1275
     obtain ⟨kq, x1271000_44, x1271001_44, x1271002_44, x1282000_44, x1282001_44, x1282002_44, HA, HJ44, BK1270, BK1272, BK1280, BK1281, HB⟩ := hcut; cases kq with
     | zero => exact absurd HA.out (by simp [whirligigref05_Eval.j3])
     | succ kj44 =>
      have H := HA.out; clear HA; simp only [whirligigref05_Eval.j3] at H; replace H := Option.bind_eq_some_iff.mp H; obtain ⟨t1286, A1270, H⟩ := H; (try dsimp -simprocs only at H); have A127 := Aside0.mk A1270; clear A1270
      by_cases c128 : t1286 = 0
      ·rw [if_pos c128] at H; have c128b0 := beq_iff_eq.mpr c128; have c128b1 := bne_eq_false_iff_eq.mpr c128; clear c128; simp only [Option.some.injEq, Prod.mk.injEq] at H; obtain ⟨rfl, rfl, rfl, rfl⟩ := H; have := NB1272_1270.out; have := NB1270_1272.out; have := NB1272_1280.out; have := NB1280_1272.out; have := NB1272_1281.out; have := NB1281_1272.out; obtain ⟨_, _, _, _, _, _, _, _, _, _, _, _, _, _⟩ := cells7 BK1272.out; have := NB1280_1270.out; have := NB1270_1280.out; have := NB1280_1281.out; have := NB1281_1280.out; obtain ⟨_, _, _, _, _, _⟩ := cells3 BK1280.out; have := NB1281_1270.out; have := NB1270_1281.out; obtain ⟨_, _, _, _, _, _⟩ := cells3 BK1281.out
       go_wp2_with (first | (go_at_call 92; (with_reducible refine (whirligigref01_Result.calls kj44 ((rd_T159 l0 a1).f0) t1276 x1282000_44 t1286 _ A127.out).mono ?_); rintro e w' ⟨rfl, ⟨nd, rfl⟩⟩; (try exact qW); obtain ⟨_, _, _, _, _, _⟩ := cells3 BK1270.out))
       repeat (go_quiet (first | (go_at_call 92; (with_reducible refine (whirligigref01_Result.calls kj44 ((rd_T159 l0 a1).f0) t1276 x1282000_44 t1286 _ A127.out).mono ?_); rintro e w' ⟨rfl, ⟨nd, rfl⟩⟩; (try exact qW); obtain ⟨_, _, _, _, _, _⟩ := cells3 BK1270.out)); try go_wp2_with (first | (go_at_call 92; (with_reducible refine (whirligigref01_Result.calls kj44 ((rd_T159 l0 a1).f0) t1276 x1282000_44 t1286 _ A127.out).mono ?_); rintro e w' ⟨rfl, ⟨nd, rfl⟩⟩; (try exact qW); obtain ⟨_, _, _, _, _, _⟩ := cells3 BK1270.out)))
       refine rct gb1270 106 #[.int .i64 0, .int .i64 0, .string (⟨#[]⟩ : ByteArray)] Tryd.underlying106 ?_; exact ⟨qR, qB⟩
      rw [if_neg c128] at H; have c128b0 := beq_eq_false_iff_ne.mpr c128; have c128b1 := bne_iff_ne.mpr c128; replace H := Option.bind_eq_some_iff.mp H; obtain ⟨⟨t1287, t1288, t1289, t1290⟩, A1390, H⟩ := H; (try dsimp -simprocs only at H); have A139 := Aside0.mk A1390; clear A1390; simp only [Option.some.injEq, Prod.mk.injEq] at H; obtain ⟨rfl, rfl, rfl, rfl⟩ := H; have := NB1272_1270.out; have := NB1270_1272.out; have := NB1272_1280.out; have := NB1280_1272.out; have := NB1272_1281.out; have := NB1281_1272.out; obtain ⟨_, _, _, _, _, _, _, _, _, _, _, _, _, _⟩ := cells7 BK1272.out; have := NB1280_1270.out; have := NB1270_1280.out; have := NB1280_1281.out; have := NB1281_1280.out; obtain ⟨_, _, _, _, _, _⟩ := cells3 BK1280.out; have := NB1281_1270.out; have := NB1270_1281.out; obtain ⟨_, _, _, _, _, _⟩ := cells3 BK1281.out
      go_wp2_with (first | (go_at_call 92; (with_reducible refine (whirligigref01_Result.calls kj44 ((rd_T159 l0 a1).f0) t1276 x1282000_44 t1286 _ A127.out).mono ?_); rintro e w' ⟨rfl, ⟨nd, rfl⟩⟩; (try exact qW)) | (go_at_call 99; (with_reducible refine (whirligigref01_Reckon.calls kj44 ((rd_T159 l0 a1).f0) t1276 t1277 t1278 x1282000_44 x1282001_44 x1282002_44 t1287 t1288 t1289 t1290 _ A139.out).mono ?_); rintro e w149 ⟨rfl, hb⟩; replace BK1270 := kb gb1270 hb; replace BK1272 := kb gb1272 hb; replace BK1280 := kb gb1280 hb; replace BK1281 := kb gb1281 hb; replace HB := bst hb; (try clear hb); obtain ⟨_, _, _, _, _, _⟩ := cells3 BK1270.out))
      repeat (go_quiet (first | (go_at_call 92; (with_reducible refine (whirligigref01_Result.calls kj44 ((rd_T159 l0 a1).f0) t1276 x1282000_44 t1286 _ A127.out).mono ?_); rintro e w' ⟨rfl, ⟨nd, rfl⟩⟩; (try exact qW)) | (go_at_call 99; (with_reducible refine (whirligigref01_Reckon.calls kj44 ((rd_T159 l0 a1).f0) t1276 t1277 t1278 x1282000_44 x1282001_44 x1282002_44 t1287 t1288 t1289 t1290 _ A139.out).mono ?_); rintro e w149 ⟨rfl, hb⟩; replace BK1270 := kb gb1270 hb; replace BK1272 := kb gb1272 hb; replace BK1280 := kb gb1280 hb; replace BK1281 := kb gb1281 hb; replace HB := bst hb; (try clear hb); obtain ⟨_, _, _, _, _, _⟩ := cells3 BK1270.out)); try go_wp2_with (first | (go_at_call 92; (with_reducible refine (whirligigref01_Result.calls kj44 ((rd_T159 l0 a1).f0) t1276 x1282000_44 t1286 _ A127.out).mono ?_); rintro e w' ⟨rfl, ⟨nd, rfl⟩⟩; (try exact qW)) | (go_at_call 99; (with_reducible refine (whirligigref01_Reckon.calls kj44 ((rd_T159 l0 a1).f0) t1276 t1277 t1278 x1282000_44 x1282001_44 x1282002_44 t1287 t1288 t1289 t1290 _ A139.out).mono ?_); rintro e w149 ⟨rfl, hb⟩; replace BK1270 := kb gb1270 hb; replace BK1272 := kb gb1272 hb; replace BK1280 := kb gb1280 hb; replace BK1281 := kb gb1281 hb; replace HB := bst hb; (try clear hb); obtain ⟨_, _, _, _, _, _⟩ := cells3 BK1270.out)))
      refine rct gb1270 106 #[.int .i64 t1287, .int .i64 t1288, .string t1289] Tryd.underlying106 ?_; exact ⟨qR, qB⟩
   rw [if_neg c44] at H
   have c44b0 := beq_eq_false_iff_ne.mpr c44
   have c44b1 := bne_iff_ne.mpr c44
   simp only [Option.some.injEq, Prod.mk.injEq] at H
   obtain ⟨rfl, rfl, rfl, rfl⟩ := H
   go_enter Tryd.func62, Tryd.ntmps62
   go_wp2_with (first | ((with_reducible refine gd 8 rfl ?_); refine bxx 8 #[.int .i64 0, .int .i64 0, .string (⟨#[]⟩ : ByteArray)] 106 ?_; intro gb1270 w151 BK1270 GW1270 HB; have p1271 : 0 ≤ (a1 : Int) := qD; have q1271 : a1 < (l0.length : Int) := qD; obtain ⟨ad1271, e1271, hx1271_0, hx1271_1, hx1271_2, hx1271_3, hx1271_4, hx1271_5, hx1271_6⟩ := at_T159 HR0.out a1 p1271 q1271; cases e1271; replace hx1271_0 := pw_cell_below HB.out hx1271_0; replace hx1271_1 := pw_cell_below HB.out hx1271_1; replace hx1271_2 := pw_cell_below HB.out hx1271_2; replace hx1271_3 := pw_cell_below HB.out hx1271_3; replace hx1271_4 := pw_cell_below HB.out hx1271_4; replace hx1271_5 := pw_cell_below HB.out hx1271_5; replace hx1271_6 := pw_cell_below HB.out hx1271_6; replace p1271 := eq_true p1271; replace q1271 := eq_true q1271) | ((with_reducible refine gd 10 rfl ?_); refine bx 10 #[.int .i64 0, .int .i64 0, .int .i64 0, .string (⟨#[]⟩ : ByteArray), .string (⟨#[]⟩ : ByteArray), .int .i64 0, .int .i64 0] 159 ?_; intro gb1272 hg w152 hbox hb; have BK1272 := Aside0.mk (hbox); have GW1272 := geS hg; have GE1272 := geS hg; have NB1270_1272 := neS gb1270 hg; have NB1272_1270 := neT gb1270 hg; replace BK1270 := kb gb1270 hb; replace HB := bst hb; clear hb hbox hg; have := NB1272_1270.out; have := NB1270_1272.out; obtain ⟨_, _, _, _, _, _, _, _, _, _, _, _, _, _⟩ := cells7 BK1272.out) | (go_at_call 62; (with_reducible refine (ih k (by omega) _ _ l0 ((rd_T159 l0 a1).f3) _ _ l2 _ _ l3 t1276 t1277 t1278 t1279 _ ?side1 ?side2 ?side3 ?side4 ?side5 ?side6 A43.out).mono ?_); (case side1 => exact Kd.C_below HR0.out qB); (case side2 => exact HC0.out); (case side3 => exact Kd.C_below HR2.out qB); (case side4 => exact HC2.out); (case side5 => exact Kd.C_below HR3.out qB); (case side6 => exact HC3.out); rintro e w155 ⟨rfl, hb⟩; replace BK1270 := kb gb1270 hb; replace BK1272 := kp gb1272 (.cells #[.int .i64 ((rd_T159 l0 a1).f0), .int .i64 ((rd_T159 l0 a1).f1.f0), .int .i64 ((rd_T159 l0 a1).f1.f1), .string ((rd_T159 l0 a1).f1.f2), .string ((rd_T159 l0 a1).f2), .int .i64 ((rd_T159 l0 a1).f3), .int .i64 ((rd_T159 l0 a1).f4)] 159 (0, 0)) hb; replace HB := bst hb; (try clear hb)) | ((with_reducible refine gd 13 rfl ?_); refine bx 13 #[.int .i64 0, .int .i64 0, .string (⟨#[]⟩ : ByteArray)] 106 ?_; intro gb1280 hg w156 hbox hb; have BK1280 := Aside0.mk (hbox); have GW1280 := geS hg; have GE1280 := geS hg; have NB1270_1280 := neS gb1270 hg; have NB1280_1270 := neT gb1270 hg; have NB1272_1280 := neS gb1272 hg; have NB1280_1272 := neT gb1272 hg; replace BK1270 := kb gb1270 hb; replace BK1272 := kb gb1272 hb; replace HB := bst hb; clear hb hbox hg; have := NB1280_1270.out; have := NB1270_1280.out; have := NB1280_1272.out; have := NB1272_1280.out; obtain ⟨_, _, _, _, _, _⟩ := cells3 BK1280.out; obtain ⟨_, _, _, _, _, _⟩ := cells3 BK1270.out))
   repeat (go_quiet (first | ((with_reducible refine gd 8 rfl ?_); refine bxx 8 #[.int .i64 0, .int .i64 0, .string (⟨#[]⟩ : ByteArray)] 106 ?_; intro gb1270 w151 BK1270 GW1270 HB; have p1271 : 0 ≤ (a1 : Int) := qD; have q1271 : a1 < (l0.length : Int) := qD; obtain ⟨ad1271, e1271, hx1271_0, hx1271_1, hx1271_2, hx1271_3, hx1271_4, hx1271_5, hx1271_6⟩ := at_T159 HR0.out a1 p1271 q1271; cases e1271; replace hx1271_0 := pw_cell_below HB.out hx1271_0; replace hx1271_1 := pw_cell_below HB.out hx1271_1; replace hx1271_2 := pw_cell_below HB.out hx1271_2; replace hx1271_3 := pw_cell_below HB.out hx1271_3; replace hx1271_4 := pw_cell_below HB.out hx1271_4; replace hx1271_5 := pw_cell_below HB.out hx1271_5; replace hx1271_6 := pw_cell_below HB.out hx1271_6; replace p1271 := eq_true p1271; replace q1271 := eq_true q1271) | ((with_reducible refine gd 10 rfl ?_); refine bx 10 #[.int .i64 0, .int .i64 0, .int .i64 0, .string (⟨#[]⟩ : ByteArray), .string (⟨#[]⟩ : ByteArray), .int .i64 0, .int .i64 0] 159 ?_; intro gb1272 hg w152 hbox hb; have BK1272 := Aside0.mk (hbox); have GW1272 := geS hg; have GE1272 := geS hg; have NB1270_1272 := neS gb1270 hg; have NB1272_1270 := neT gb1270 hg; replace BK1270 := kb gb1270 hb; replace HB := bst hb; clear hb hbox hg; have := NB1272_1270.out; have := NB1270_1272.out; obtain ⟨_, _, _, _, _, _, _, _, _, _, _, _, _, _⟩ := cells7 BK1272.out) | (go_at_call 62; (with_reducible refine (ih k (by omega) _ _ l0 ((rd_T159 l0 a1).f3) _ _ l2 _ _ l3 t1276 t1277 t1278 t1279 _ ?side1 ?side2 ?side3 ?side4 ?side5 ?side6 A43.out).mono ?_); (case side1 => exact Kd.C_below HR0.out qB); (case side2 => exact HC0.out); (case side3 => exact Kd.C_below HR2.out qB); (case side4 => exact HC2.out); (case side5 => exact Kd.C_below HR3.out qB); (case side6 => exact HC3.out); rintro e w155 ⟨rfl, hb⟩; replace BK1270 := kb gb1270 hb; replace BK1272 := kp gb1272 (.cells #[.int .i64 ((rd_T159 l0 a1).f0), .int .i64 ((rd_T159 l0 a1).f1.f0), .int .i64 ((rd_T159 l0 a1).f1.f1), .string ((rd_T159 l0 a1).f1.f2), .string ((rd_T159 l0 a1).f2), .int .i64 ((rd_T159 l0 a1).f3), .int .i64 ((rd_T159 l0 a1).f4)] 159 (0, 0)) hb; replace HB := bst hb; (try clear hb)) | ((with_reducible refine gd 13 rfl ?_); refine bx 13 #[.int .i64 0, .int .i64 0, .string (⟨#[]⟩ : ByteArray)] 106 ?_; intro gb1280 hg w156 hbox hb; have BK1280 := Aside0.mk (hbox); have GW1280 := geS hg; have GE1280 := geS hg; have NB1270_1280 := neS gb1270 hg; have NB1280_1270 := neT gb1270 hg; have NB1272_1280 := neS gb1272 hg; have NB1280_1272 := neT gb1272 hg; replace BK1270 := kb gb1270 hb; replace BK1272 := kb gb1272 hb; replace HB := bst hb; clear hb hbox hg; have := NB1280_1270.out; have := NB1270_1280.out; have := NB1280_1272.out; have := NB1272_1280.out; obtain ⟨_, _, _, _, _, _⟩ := cells3 BK1280.out; obtain ⟨_, _, _, _, _, _⟩ := cells3 BK1270.out)); try go_wp2_with (first | ((with_reducible refine gd 8 rfl ?_); refine bxx 8 #[.int .i64 0, .int .i64 0, .string (⟨#[]⟩ : ByteArray)] 106 ?_; intro gb1270 w151 BK1270 GW1270 HB; have p1271 : 0 ≤ (a1 : Int) := qD; have q1271 : a1 < (l0.length : Int) := qD; obtain ⟨ad1271, e1271, hx1271_0, hx1271_1, hx1271_2, hx1271_3, hx1271_4, hx1271_5, hx1271_6⟩ := at_T159 HR0.out a1 p1271 q1271; cases e1271; replace hx1271_0 := pw_cell_below HB.out hx1271_0; replace hx1271_1 := pw_cell_below HB.out hx1271_1; replace hx1271_2 := pw_cell_below HB.out hx1271_2; replace hx1271_3 := pw_cell_below HB.out hx1271_3; replace hx1271_4 := pw_cell_below HB.out hx1271_4; replace hx1271_5 := pw_cell_below HB.out hx1271_5; replace hx1271_6 := pw_cell_below HB.out hx1271_6; replace p1271 := eq_true p1271; replace q1271 := eq_true q1271) | ((with_reducible refine gd 10 rfl ?_); refine bx 10 #[.int .i64 0, .int .i64 0, .int .i64 0, .string (⟨#[]⟩ : ByteArray), .string (⟨#[]⟩ : ByteArray), .int .i64 0, .int .i64 0] 159 ?_; intro gb1272 hg w152 hbox hb; have BK1272 := Aside0.mk (hbox); have GW1272 := geS hg; have GE1272 := geS hg; have NB1270_1272 := neS gb1270 hg; have NB1272_1270 := neT gb1270 hg; replace BK1270 := kb gb1270 hb; replace HB := bst hb; clear hb hbox hg; have := NB1272_1270.out; have := NB1270_1272.out; obtain ⟨_, _, _, _, _, _, _, _, _, _, _, _, _, _⟩ := cells7 BK1272.out) | (go_at_call 62; (with_reducible refine (ih k (by omega) _ _ l0 ((rd_T159 l0 a1).f3) _ _ l2 _ _ l3 t1276 t1277 t1278 t1279 _ ?side1 ?side2 ?side3 ?side4 ?side5 ?side6 A43.out).mono ?_); (case side1 => exact Kd.C_below HR0.out qB); (case side2 => exact HC0.out); (case side3 => exact Kd.C_below HR2.out qB); (case side4 => exact HC2.out); (case side5 => exact Kd.C_below HR3.out qB); (case side6 => exact HC3.out); rintro e w155 ⟨rfl, hb⟩; replace BK1270 := kb gb1270 hb; replace BK1272 := kp gb1272 (.cells #[.int .i64 ((rd_T159 l0 a1).f0), .int .i64 ((rd_T159 l0 a1).f1.f0), .int .i64 ((rd_T159 l0 a1).f1.f1), .string ((rd_T159 l0 a1).f1.f2), .string ((rd_T159 l0 a1).f2), .int .i64 ((rd_T159 l0 a1).f3), .int .i64 ((rd_T159 l0 a1).f4)] 159 (0, 0)) hb; replace HB := bst hb; (try clear hb)) | ((with_reducible refine gd 13 rfl ?_); refine bx 13 #[.int .i64 0, .int .i64 0, .string (⟨#[]⟩ : ByteArray)] 106 ?_; intro gb1280 hg w156 hbox hb; have BK1280 := Aside0.mk (hbox); have GW1280 := geS hg; have GE1280 := geS hg; have NB1270_1280 := neS gb1270 hg; have NB1280_1270 := neT gb1270 hg; have NB1272_1280 := neS gb1272 hg; have NB1280_1272 := neT gb1272 hg; replace BK1270 := kb gb1270 hb; replace BK1272 := kb gb1272 hb; replace HB := bst hb; clear hb hbox hg; have := NB1280_1270.out; have := NB1270_1280.out; have := NB1280_1272.out; have := NB1272_1280.out; obtain ⟨_, _, _, _, _, _⟩ := cells3 BK1280.out; obtain ⟨_, _, _, _, _, _⟩ := cells3 BK1270.out)))
   refine rct gb1270 106 #[.int .i64 0, .int .i64 0, .string (⟨#[]⟩ : ByteArray)] Tryd.underlying106 ?_
   exact ⟨qR, qB⟩
  rw [if_neg c6] at H
  exact absurd H (by simp)
 rw [if_neg c5] at H
 exact absurd H (by simp)
end Go.Proofs.YtbngfhlciebeeaaDoor.L
