/- Printed and hand-written steps towards the row (TreeMoves), those that it reaches. -/
import Derived.Test.YtbngfhlciebeeaaDoorTreeMovesG4
namespace Go.Proofs.YtbngfhlciebeeaaDoor.L
open Go.RowKit Go.Proofs.YtbngfhlciebeeaaDoorW.PrintWords Go.Proofs.YtbngfhlciebeeaaDoorW.PrintLast Go.Proofs.YtbngfhlciebeeaaDoorW.PrintMore
attribute [local go_sem] max2_int min2_int max_two min_two max_three min_three max_four min_four   -- for this text's walks alone
set_option linter.unusedVariables false
set_option linter.unusedSimpArgs false
def tok_reader_quote_1.f (a0 : Int) : Option (Bool) := some (a0 != 39)
set_option maxHeartbeats 8000000 in
set_option maxRecDepth 100000 in
theorem tok_reader_quote_1.calls (a0 : Int) (r : Bool) (w : World) (h : tok_reader_quote_1.f a0 = some r) :
  Calls Tryd.prog 133 #[.int .u8 a0] w fun e w' => e = .returned (.bool r) ∧ Drawn0 w w' := by
 have H : (some (a0 != 39)) = some r := h
 clear h
 obtain rfl := Option.some.inj H
 go_enter Tryd.func133, Tryd.ntmps133
 go_wp2
 go_ret
 exact ⟨by first | rfl | (simp; done) | (simp [*]; done), by repeat (first | exact Drawn0.refl _ | apply Drawn0.step)⟩
def tok_reader_while_quote.l0 : Nat → Int → ByteArray → Int → Option (ByteArray × ByteArray × Int)
 | 0, _, _, _ => none
 | k + 1, x5, x1000, x1001 => if x1001 < (x1000.size : Int) then (if 0 ≤ x1001 then ((tok_reader_quote_1.f (bt x1000 x1001)).bind fun t117 => (if t117 = true then (tok_reader_while_quote.l0 k x5 x1000 (wrap64 (x1001 + 1))) else (if 0 ≤ x5 then (if x5 ≤ x1001 then (if x1001 ≤ (x1000.size : Int) then (some (x1000.extract (x5 : Int).toNat (x1001 : Int).toNat, x1000, x1001)) else (none)) else (none)) else (none)))) else (none)) else (if 0 ≤ x5 then (if x5 ≤ x1001 then (if x1001 ≤ (x1000.size : Int) then (some (x1000.extract (x5 : Int).toNat (x1001 : Int).toNat, x1000, x1001)) else (none)) else (none)) else (none))
def tok_reader_while_quote.f (k : Nat) (s0_0 : ByteArray) (s0_1 : Int) : Option (ByteArray × ByteArray × Int) := tok_reader_while_quote.l0 k s0_1 s0_0 s0_1
set_option maxHeartbeats 8000000 in
set_option maxRecDepth 100000 in
theorem tok_reader_while_quote.calls (k : Nat) (g : Nat) (s0_0 : ByteArray) (s0_1 : Int) (r1 : ByteArray) (r2 : ByteArray) (r3 : Int) (w0 w : World) (hI : IsS122 w0 w g s0_0 s0_1) (hB : Below w0.heap.size w0 w) (h : tok_reader_while_quote.f k s0_0 s0_1 = some (r1, r2, r3)) :
  Calls Tryd.prog 67 #[.pointer (some ⟨g, 0, none⟩), .func (.func 133) #[] #[]] w fun e w' => e = .returned (.string r1) ∧ IsS122 w0 w' g r2 r3 ∧ Below w0.heap.size w0 w' ∧ KeepBut w w' g none := by
 have HI0 := Aside0.mk hI
 have HK := Aside0.mk (KeepBut.refl w g none)
 have HL := Aside0.mk hB.size
 clear hI
 have HW0 := Aside0.mk hB.size
 have HB := Aside0.mk hB
 clear hB
 have H : (tok_reader_while_quote.l0 k s0_1 s0_0 s0_1) = some (r1, r2, r3) := h
 clear h
 have H' := Aside0.mk H
 clear H
 obtain ⟨HGz2, hgz2⟩ := HI0.out
 have hcz2_0 := cellS122_0 HGz2
 have hcz2_1 := cellS122_1 HGz2
 have hfz2_0 := blk_frozen HGz2 0
 have hfz2_1 := blk_frozen HGz2 1
 clear HGz2 hgz2
 go_enter Tryd.func67, Tryd.ntmps67
 go_wp2
 repeat (go_quiet (fail); try go_wp2)
 go_loopg [] k (fun kq w' => ∃ (x1001_1 : Int), Aside0 (tok_reader_while_quote.l0 kq s0_1 s0_0 x1001_1 = some (r1, r2, r3)) ∧ Aside0 (kq ≤ k) ∧ Aside0 (IsS122 w0 w' g s0_0 x1001_1) ∧ Aside0 (KeepBut w w' g none) ∧ Aside0 (Below w0.heap.size w0 w'))
 case atStart => exact ⟨(s0_1), H', ⟨Nat.le_refl _⟩, ⟨qI⟩, ⟨qH⟩, ⟨qB⟩⟩
 case round =>
  clear H'
  try clear p2
  try clear hcz2_0 hcz2_1 hfz2_0 hfz2_1
  obtain ⟨x1001_1, HA, HK1, HI0, HK, HB⟩ := hrel
  cases gk with
  | zero => exact absurd HA.out (by simp [tok_reader_while_quote.l0])
  | succ k1 =>
   have H := HA.out
   clear HA
   simp only [tok_reader_while_quote.l0] at H
   by_cases c3 : x1001_1 < (s0_0.size : Int)
   ·rw [if_pos c3] at H
    have c3b0 := decide_eq_true c3
    clear c3
    by_cases c4 : 0 ≤ x1001_1
    ·rw [if_pos c4] at H
     have c4b0 := decide_eq_true c4
     clear c4
     replace H := Option.bind_eq_some_iff.mp H
     obtain ⟨t117, A60, H⟩ := H
     (try dsimp -simprocs only at H)
     have A6 := Aside0.mk A60
     clear A60
     by_cases c7 : t117 = true
     ·subst c7
      rw [if_pos rfl] at H
      have H' := Aside0.mk H
      clear H
      obtain ⟨HGz8, hgz8⟩ := HI0.out
      have hcz8_0 := cellS122_0 HGz8
      have hcz8_1 := cellS122_1 HGz8
      have hfz8_0 := blk_frozen HGz8 0
      have hfz8_1 := blk_frozen HGz8 1
      clear HGz8 hgz8
      have p5 : 0 ≤ (x1001_1 : Int) := qD
      have q5 : x1001_1 < (s0_0.size : Int) := qD
      have hx5 := bt_at s0_0 x1001_1
      replace p5 := eq_true p5
      replace q5 := eq_true q5
      go_wp2_with (first | (go_at_call 133; (with_reducible refine (tok_reader_quote_1.calls (bt s0_0 x1001_1) true _ A6.out).mono ?_); rintro e w' ⟨rfl, ⟨nd, rfl⟩⟩; (try exact qW)))
      repeat (go_quiet (first | (go_at_call 133; (with_reducible refine (tok_reader_quote_1.calls (bt s0_0 x1001_1) true _ A6.out).mono ?_); rintro e w' ⟨rfl, ⟨nd, rfl⟩⟩; (try exact qW))); try go_wp2_with (first | (go_at_call 133; (with_reducible refine (tok_reader_quote_1.calls (bt s0_0 x1001_1) true _ A6.out).mono ?_); rintro e w' ⟨rfl, ⟨nd, rfl⟩⟩; (try exact qW))))
      go_roundg k1
      case measure => have := HK1.out; omega
      case rel => exact ⟨(wrap64 (x1001_1 + 1)), H', ⟨by have := HK1.out; omega⟩, ⟨qI⟩, ⟨qH⟩, ⟨qB⟩⟩
     ·replace c7 := Bool.eq_false_iff.mpr c7
      subst c7
      rw [if_neg (show ¬ (false = true) by decide)] at H
      by_cases c9 : 0 ≤ s0_1
      ·rw [if_pos c9] at H
       have c9b0 := eq_true c9
       have c9b1 := decide_eq_true c9
       clear c9
       by_cases c10 : s0_1 ≤ x1001_1
       ·rw [if_pos c10] at H
        have c10b0 := eq_true c10
        have c10b1 := decide_eq_true c10
        clear c10
        by_cases c11 : x1001_1 ≤ (s0_0.size : Int)
        ·rw [if_pos c11] at H
         have c11b0 := eq_true c11
         have c11b1 := decide_eq_true c11
         clear c11
         simp only [Option.some.injEq, Prod.mk.injEq] at H
         obtain ⟨rfl, rfl, rfl⟩ := H
         obtain ⟨HGz12, hgz12⟩ := HI0.out
         have hcz12_0 := cellS122_0 HGz12
         have hcz12_1 := cellS122_1 HGz12
         have hfz12_0 := blk_frozen HGz12 0
         have hfz12_1 := blk_frozen HGz12 1
         clear HGz12 hgz12
         have p5 : 0 ≤ (x1001_1 : Int) := qD
         have q5 : x1001_1 < (s0_0.size : Int) := qD
         have hx5 := bt_at s0_0 x1001_1
         replace p5 := eq_true p5
         replace q5 := eq_true q5
         go_wp2_with (first | (go_at_call 133; (with_reducible refine (tok_reader_quote_1.calls (bt s0_0 x1001_1) false _ A6.out).mono ?_); rintro e w' ⟨rfl, ⟨nd, rfl⟩⟩; (try exact qW)))
         repeat (go_quiet (first | (go_at_call 133; (with_reducible refine (tok_reader_quote_1.calls (bt s0_0 x1001_1) false _ A6.out).mono ?_); rintro e w' ⟨rfl, ⟨nd, rfl⟩⟩; (try exact qW))); try go_wp2_with (first | (go_at_call 133; (with_reducible refine (tok_reader_quote_1.calls (bt s0_0 x1001_1) false _ A6.out).mono ?_); rintro e w' ⟨rfl, ⟨nd, rfl⟩⟩; (try exact qW))))
         go_ret
         exact ⟨qR, qI, qB, qH⟩
        ·rw [if_neg c11] at H
         exact absurd H (by simp)
       ·rw [if_neg c10] at H
        exact absurd H (by simp)
      ·rw [if_neg c9] at H
       exact absurd H (by simp)
    ·rw [if_neg c4] at H
     exact absurd H (by simp)
   ·rw [if_neg c3] at H
    have c3b0 := decide_eq_false c3
    clear c3
    by_cases c13 : 0 ≤ s0_1
    ·rw [if_pos c13] at H
     have c13b0 := eq_true c13
     have c13b1 := decide_eq_true c13
     clear c13
     by_cases c14 : s0_1 ≤ x1001_1
     ·rw [if_pos c14] at H
      have c14b0 := eq_true c14
      have c14b1 := decide_eq_true c14
      clear c14
      by_cases c15 : x1001_1 ≤ (s0_0.size : Int)
      ·rw [if_pos c15] at H
       have c15b0 := eq_true c15
       have c15b1 := decide_eq_true c15
       clear c15
       simp only [Option.some.injEq, Prod.mk.injEq] at H
       obtain ⟨rfl, rfl, rfl⟩ := H
       obtain ⟨HGz16, hgz16⟩ := HI0.out
       have hcz16_0 := cellS122_0 HGz16
       have hcz16_1 := cellS122_1 HGz16
       have hfz16_0 := blk_frozen HGz16 0
       have hfz16_1 := blk_frozen HGz16 1
       clear HGz16 hgz16
       go_wp2
       repeat (go_quiet (fail); try go_wp2)
       go_ret
       exact ⟨qR, qI, qB, qH⟩
      ·rw [if_neg c15] at H
       exact absurd H (by simp)
     ·rw [if_neg c14] at H
      exact absurd H (by simp)
    ·rw [if_neg c13] at H
     exact absurd H (by simp)
def tok_reader_quote.f (k : Nat) (s0_0 : ByteArray) (s0_1 : Int) : Option (Int × ByteArray × Int × Int × Int × ByteArray × Int) := (tok_reader_while_quote.f k s0_0 (wrap64 (s0_1 + 1))).bind fun bt119 => (if bt119.2.2 = (bt119.2.1.size : Int) then (some (0, (⟨#[]⟩ : ByteArray), 0, 0, 14, bt119.2.1, bt119.2.2)) else (if (bt119.1.size : Int) > 48 then (some (0, (⟨#[]⟩ : ByteArray), 0, 0, 15, bt119.2.1, wrap64 (bt119.2.2 + 1))) else ((val_Plain.f bt119.1).bind fun t122 => (if t122 = true then (some (4, bt119.1, 0, 0, 0, bt119.2.1, wrap64 (bt119.2.2 + 1))) else (some (0, (⟨#[]⟩ : ByteArray), 0, 0, 11, bt119.2.1, wrap64 (bt119.2.2 + 1)))))))
set_option maxHeartbeats 8000000 in
set_option maxRecDepth 100000 in
theorem tok_reader_quote.calls (k : Nat) (g : Nat) (s0_0 : ByteArray) (s0_1 : Int) (r1 : Int) (r2 : ByteArray) (r3 : Int) (r4 : Int) (r5 : Int) (r6 : ByteArray) (r7 : Int) (w0 w : World) (hI : IsS122 w0 w g s0_0 s0_1) (hB : Below w0.heap.size w0 w) (h : tok_reader_quote.f k s0_0 s0_1 = some (r1, r2, r3, r4, r5, r6, r7)) :
  Calls Tryd.prog 106 #[.pointer (some ⟨g, 0, none⟩)] w fun e w' => e = .returned (.tuple #[.agg #[.int .i64 r1, .string r2, .int .i64 r3, .int .i64 r4], .int .i64 r5]) ∧ IsS122 w0 w' g r6 r7 ∧ Below w0.heap.size w0 w' ∧ KeepBut w w' g none := by
 have hu32 := Tryd.underlying32
 have HI0 := Aside0.mk hI
 have HK := Aside0.mk (KeepBut.refl w g none)
 have HL := Aside0.mk hB.size
 clear hI
 have HW0 := Aside0.mk hB.size
 have HB := Aside0.mk hB
 clear hB
 have H : ((tok_reader_while_quote.f k s0_0 (wrap64 (s0_1 + 1))).bind fun bt119 => (if bt119.2.2 = (bt119.2.1.size : Int) then (some (0, (⟨#[]⟩ : ByteArray), 0, 0, 14, bt119.2.1, bt119.2.2)) else (if (bt119.1.size : Int) > 48 then (some (0, (⟨#[]⟩ : ByteArray), 0, 0, 15, bt119.2.1, wrap64 (bt119.2.2 + 1))) else ((val_Plain.f bt119.1).bind fun t122 => (if t122 = true then (some (4, bt119.1, 0, 0, 0, bt119.2.1, wrap64 (bt119.2.2 + 1))) else (some (0, (⟨#[]⟩ : ByteArray), 0, 0, 11, bt119.2.1, wrap64 (bt119.2.2 + 1)))))))) = some (r1, r2, r3, r4, r5, r6, r7) := h
 clear h
 replace H := Option.bind_eq_some_iff.mp H
 obtain ⟨⟨t119, t120, t121⟩, A20, H⟩ := H
 (try dsimp -simprocs only at H)
 have A2 := Aside0.mk A20
 clear A20
 by_cases c3 : t121 = (t120.size : Int)
 ·rw [if_pos c3] at H
  have c3b0 := beq_iff_eq.mpr c3
  have c3b1 := bne_eq_false_iff_eq.mpr c3
  clear c3
  simp only [Option.some.injEq, Prod.mk.injEq] at H
  obtain ⟨rfl, rfl, rfl, rfl, rfl, rfl, rfl⟩ := H
  go_enter Tryd.func106, Tryd.ntmps106
  go_wp2_with (first | (refine bx 2 #[.int .i64 0, .string (⟨#[]⟩ : ByteArray), .int .i64 0, .int .i64 0] 32 ?_; intro gb118 hg w4 hbox hb; have n0_ := Aside0.mk (IsS122.below qI hb); have n1_ := Aside0.mk (KeepBut.trans (w := w) qH (KeepBut.of_below hb g none) (.inl rfl)); have n2_ := bst hb; have n3_ := Aside0.mk (hbox); have n4_ := gkS (w := w) hg; have n5_ := Aside0.mk ((Nat.le_trans HW0.out (by rw [hg]; exact (keep_size (w := w) (g := g) (row := none) qH) : w.heap.size ≤ gb118) : w0.heap.size ≤ gb118)); have n6_ := niS hg; have n7_ := niT hg; clear HI0; clear HK; clear HB; have HI0 := n0_; have HK := n1_; have HB := n2_; have BK118 := n3_; have GW118 := n4_; have GE118 := n5_; have NB0_118 := n6_; have NB118_0 := n7_; clear n0_ n1_ n2_ n3_ n4_ n5_ n6_ n7_; clear hb hbox hg; obtain ⟨HGz5, hgz5⟩ := HI0.out; have hcz5_0 := cellS122_0 HGz5; have hcz5_1 := cellS122_1 HGz5; have hfz5_0 := blk_frozen HGz5 0; have hfz5_1 := blk_frozen HGz5 1; clear HGz5 hgz5) | (go_at_call 67; (with_reducible refine (tok_reader_while_quote.calls k g s0_0 (wrap64 (s0_1 + 1)) t119 t120 t121 w0 _ ?side1 ?side2 A2.out).mono ?_); (case side1 => repeat (first | (with_reducible first | exact HI0.out | apply IsS122.alloc | apply IsS122.drewN | apply IsS122.drew | apply IsS122.set_0 | apply IsS122.set_1 | refine IsS122.far ?_ NB0_118.out _) | exact HI0.out)); (case side2 => repeat (first | (with_reducible first | exact HB.out | apply below_alloc | apply pw_below_drewN | apply below_drew1 | refine below_set ?_ (IsS122.ge HI0.out) | refine below_set ?_ GE118.out) | exact HB.out)); rintro e w6 ⟨rfl, hi, hb, hk⟩; replace BK118 := Aside0.mk (KeepBut.blk hk (g' := gb118) (o := .cells #[.int .i64 0, .string (⟨#[]⟩ : ByteArray), .int .i64 0, .int .i64 0] 32 (0, 0)) qK NB118_0.out (by simp)); replace HI0 := Aside0.mk (hi); replace HK := Aside0.mk (KeepBut.trans (w := w) qH hk (.inl rfl)); replace HB := Aside0.mk (hb); (try clear hb); (try clear hk); (try clear hi); obtain ⟨HGz7, hgz7⟩ := HI0.out; have hcz7_0 := cellS122_0 HGz7; have hcz7_1 := cellS122_1 HGz7; have hfz7_0 := blk_frozen HGz7 0; have hfz7_1 := blk_frozen HGz7 1; clear HGz7 hgz7; have hnb8 := NB118_0.out; have hnc8 := NB0_118.out; obtain ⟨hcz9_0, hcz9_1, hcz9_2, hcz9_3, hfz9_0, hfz9_1, hfz9_2, hfz9_3⟩ := cells4 BK118.out))
  repeat (go_quiet (first | (refine bx 2 #[.int .i64 0, .string (⟨#[]⟩ : ByteArray), .int .i64 0, .int .i64 0] 32 ?_; intro gb118 hg w4 hbox hb; have n0_ := Aside0.mk (IsS122.below qI hb); have n1_ := Aside0.mk (KeepBut.trans (w := w) qH (KeepBut.of_below hb g none) (.inl rfl)); have n2_ := bst hb; have n3_ := Aside0.mk (hbox); have n4_ := gkS (w := w) hg; have n5_ := Aside0.mk ((Nat.le_trans HW0.out (by rw [hg]; exact (keep_size (w := w) (g := g) (row := none) qH) : w.heap.size ≤ gb118) : w0.heap.size ≤ gb118)); have n6_ := niS hg; have n7_ := niT hg; clear HI0; clear HK; clear HB; have HI0 := n0_; have HK := n1_; have HB := n2_; have BK118 := n3_; have GW118 := n4_; have GE118 := n5_; have NB0_118 := n6_; have NB118_0 := n7_; clear n0_ n1_ n2_ n3_ n4_ n5_ n6_ n7_; clear hb hbox hg; obtain ⟨HGz5, hgz5⟩ := HI0.out; have hcz5_0 := cellS122_0 HGz5; have hcz5_1 := cellS122_1 HGz5; have hfz5_0 := blk_frozen HGz5 0; have hfz5_1 := blk_frozen HGz5 1; clear HGz5 hgz5) | (go_at_call 67; (with_reducible refine (tok_reader_while_quote.calls k g s0_0 (wrap64 (s0_1 + 1)) t119 t120 t121 w0 _ ?side1 ?side2 A2.out).mono ?_); (case side1 => repeat (first | (with_reducible first | exact HI0.out | apply IsS122.alloc | apply IsS122.drewN | apply IsS122.drew | apply IsS122.set_0 | apply IsS122.set_1 | refine IsS122.far ?_ NB0_118.out _) | exact HI0.out)); (case side2 => repeat (first | (with_reducible first | exact HB.out | apply below_alloc | apply pw_below_drewN | apply below_drew1 | refine below_set ?_ (IsS122.ge HI0.out) | refine below_set ?_ GE118.out) | exact HB.out)); rintro e w6 ⟨rfl, hi, hb, hk⟩; replace BK118 := Aside0.mk (KeepBut.blk hk (g' := gb118) (o := .cells #[.int .i64 0, .string (⟨#[]⟩ : ByteArray), .int .i64 0, .int .i64 0] 32 (0, 0)) qK NB118_0.out (by simp)); replace HI0 := Aside0.mk (hi); replace HK := Aside0.mk (KeepBut.trans (w := w) qH hk (.inl rfl)); replace HB := Aside0.mk (hb); (try clear hb); (try clear hk); (try clear hi); obtain ⟨HGz7, hgz7⟩ := HI0.out; have hcz7_0 := cellS122_0 HGz7; have hcz7_1 := cellS122_1 HGz7; have hfz7_0 := blk_frozen HGz7 0; have hfz7_1 := blk_frozen HGz7 1; clear HGz7 hgz7; have hnb8 := NB118_0.out; have hnc8 := NB0_118.out; obtain ⟨hcz9_0, hcz9_1, hcz9_2, hcz9_3, hfz9_0, hfz9_1, hfz9_2, hfz9_3⟩ := cells4 BK118.out)); try go_wp2_with (first | (refine bx 2 #[.int .i64 0, .string (⟨#[]⟩ : ByteArray), .int .i64 0, .int .i64 0] 32 ?_; intro gb118 hg w4 hbox hb; have n0_ := Aside0.mk (IsS122.below qI hb); have n1_ := Aside0.mk (KeepBut.trans (w := w) qH (KeepBut.of_below hb g none) (.inl rfl)); have n2_ := bst hb; have n3_ := Aside0.mk (hbox); have n4_ := gkS (w := w) hg; have n5_ := Aside0.mk ((Nat.le_trans HW0.out (by rw [hg]; exact (keep_size (w := w) (g := g) (row := none) qH) : w.heap.size ≤ gb118) : w0.heap.size ≤ gb118)); have n6_ := niS hg; have n7_ := niT hg; clear HI0; clear HK; clear HB; have HI0 := n0_; have HK := n1_; have HB := n2_; have BK118 := n3_; have GW118 := n4_; have GE118 := n5_; have NB0_118 := n6_; have NB118_0 := n7_; clear n0_ n1_ n2_ n3_ n4_ n5_ n6_ n7_; clear hb hbox hg; obtain ⟨HGz5, hgz5⟩ := HI0.out; have hcz5_0 := cellS122_0 HGz5; have hcz5_1 := cellS122_1 HGz5; have hfz5_0 := blk_frozen HGz5 0; have hfz5_1 := blk_frozen HGz5 1; clear HGz5 hgz5) | (go_at_call 67; (with_reducible refine (tok_reader_while_quote.calls k g s0_0 (wrap64 (s0_1 + 1)) t119 t120 t121 w0 _ ?side1 ?side2 A2.out).mono ?_); (case side1 => repeat (first | (with_reducible first | exact HI0.out | apply IsS122.alloc | apply IsS122.drewN | apply IsS122.drew | apply IsS122.set_0 | apply IsS122.set_1 | refine IsS122.far ?_ NB0_118.out _) | exact HI0.out)); (case side2 => repeat (first | (with_reducible first | exact HB.out | apply below_alloc | apply pw_below_drewN | apply below_drew1 | refine below_set ?_ (IsS122.ge HI0.out) | refine below_set ?_ GE118.out) | exact HB.out)); rintro e w6 ⟨rfl, hi, hb, hk⟩; replace BK118 := Aside0.mk (KeepBut.blk hk (g' := gb118) (o := .cells #[.int .i64 0, .string (⟨#[]⟩ : ByteArray), .int .i64 0, .int .i64 0] 32 (0, 0)) qK NB118_0.out (by simp)); replace HI0 := Aside0.mk (hi); replace HK := Aside0.mk (KeepBut.trans (w := w) qH hk (.inl rfl)); replace HB := Aside0.mk (hb); (try clear hb); (try clear hk); (try clear hi); obtain ⟨HGz7, hgz7⟩ := HI0.out; have hcz7_0 := cellS122_0 HGz7; have hcz7_1 := cellS122_1 HGz7; have hfz7_0 := blk_frozen HGz7 0; have hfz7_1 := blk_frozen HGz7 1; clear HGz7 hgz7; have hnb8 := NB118_0.out; have hnc8 := NB0_118.out; obtain ⟨hcz9_0, hcz9_1, hcz9_2, hcz9_3, hfz9_0, hfz9_1, hfz9_2, hfz9_3⟩ := cells4 BK118.out)))
  refine bodyPost_ret (results_ct rfl _ _ gb118 32 #[.int .i64 0, .string (⟨#[]⟩ : ByteArray), .int .i64 0, .int .i64 0] (0, 0) _ rfl qP Tryd.underlying32 rfl (by kernel_rfl)) rfl ?_
  exact ⟨qR, qI, qB, qH⟩
 ·rw [if_neg c3] at H
  have c3b0 := beq_eq_false_iff_ne.mpr c3
  have c3b1 := bne_iff_ne.mpr c3
  by_cases c10 : (t119.size : Int) > 48
  ·rw [if_pos c10] at H
   have c10b0 := decide_eq_true c10
   have c10b1 : decide (48 < t119.size) = true := decide_eq_true (by omega)
   clear c10
   simp only [Option.some.injEq, Prod.mk.injEq] at H
   obtain ⟨rfl, rfl, rfl, rfl, rfl, rfl, rfl⟩ := H
   go_enter Tryd.func106, Tryd.ntmps106
   go_wp2_with (first | (refine bx 2 #[.int .i64 0, .string (⟨#[]⟩ : ByteArray), .int .i64 0, .int .i64 0] 32 ?_; intro gb118 hg w11 hbox hb; have n0_ := Aside0.mk (IsS122.below qI hb); have n1_ := Aside0.mk (KeepBut.trans (w := w) qH (KeepBut.of_below hb g none) (.inl rfl)); have n2_ := bst hb; have n3_ := Aside0.mk (hbox); have n4_ := gkS (w := w) hg; have n5_ := Aside0.mk ((Nat.le_trans HW0.out (by rw [hg]; exact (keep_size (w := w) (g := g) (row := none) qH) : w.heap.size ≤ gb118) : w0.heap.size ≤ gb118)); have n6_ := niS hg; have n7_ := niT hg; clear HI0; clear HK; clear HB; have HI0 := n0_; have HK := n1_; have HB := n2_; have BK118 := n3_; have GW118 := n4_; have GE118 := n5_; have NB0_118 := n6_; have NB118_0 := n7_; clear n0_ n1_ n2_ n3_ n4_ n5_ n6_ n7_; clear hb hbox hg; obtain ⟨HGz12, hgz12⟩ := HI0.out; have hcz12_0 := cellS122_0 HGz12; have hcz12_1 := cellS122_1 HGz12; have hfz12_0 := blk_frozen HGz12 0; have hfz12_1 := blk_frozen HGz12 1; clear HGz12 hgz12) | (go_at_call 67; (with_reducible refine (tok_reader_while_quote.calls k g s0_0 (wrap64 (s0_1 + 1)) t119 t120 t121 w0 _ ?side1 ?side2 A2.out).mono ?_); (case side1 => repeat (first | (with_reducible first | exact HI0.out | apply IsS122.alloc | apply IsS122.drewN | apply IsS122.drew | apply IsS122.set_0 | apply IsS122.set_1 | refine IsS122.far ?_ NB0_118.out _) | exact HI0.out)); (case side2 => repeat (first | (with_reducible first | exact HB.out | apply below_alloc | apply pw_below_drewN | apply below_drew1 | refine below_set ?_ (IsS122.ge HI0.out) | refine below_set ?_ GE118.out) | exact HB.out)); rintro e w13 ⟨rfl, hi, hb, hk⟩; replace BK118 := Aside0.mk (KeepBut.blk hk (g' := gb118) (o := .cells #[.int .i64 0, .string (⟨#[]⟩ : ByteArray), .int .i64 0, .int .i64 0] 32 (0, 0)) qK NB118_0.out (by simp)); replace HI0 := Aside0.mk (hi); replace HK := Aside0.mk (KeepBut.trans (w := w) qH hk (.inl rfl)); replace HB := Aside0.mk (hb); (try clear hb); (try clear hk); (try clear hi); obtain ⟨HGz14, hgz14⟩ := HI0.out; have hcz14_0 := cellS122_0 HGz14; have hcz14_1 := cellS122_1 HGz14; have hfz14_0 := blk_frozen HGz14 0; have hfz14_1 := blk_frozen HGz14 1; clear HGz14 hgz14; have hnb15 := NB118_0.out; have hnc15 := NB0_118.out; obtain ⟨hcz16_0, hcz16_1, hcz16_2, hcz16_3, hfz16_0, hfz16_1, hfz16_2, hfz16_3⟩ := cells4 BK118.out))
   repeat (go_quiet (first | (refine bx 2 #[.int .i64 0, .string (⟨#[]⟩ : ByteArray), .int .i64 0, .int .i64 0] 32 ?_; intro gb118 hg w11 hbox hb; have n0_ := Aside0.mk (IsS122.below qI hb); have n1_ := Aside0.mk (KeepBut.trans (w := w) qH (KeepBut.of_below hb g none) (.inl rfl)); have n2_ := bst hb; have n3_ := Aside0.mk (hbox); have n4_ := gkS (w := w) hg; have n5_ := Aside0.mk ((Nat.le_trans HW0.out (by rw [hg]; exact (keep_size (w := w) (g := g) (row := none) qH) : w.heap.size ≤ gb118) : w0.heap.size ≤ gb118)); have n6_ := niS hg; have n7_ := niT hg; clear HI0; clear HK; clear HB; have HI0 := n0_; have HK := n1_; have HB := n2_; have BK118 := n3_; have GW118 := n4_; have GE118 := n5_; have NB0_118 := n6_; have NB118_0 := n7_; clear n0_ n1_ n2_ n3_ n4_ n5_ n6_ n7_; clear hb hbox hg; obtain ⟨HGz12, hgz12⟩ := HI0.out; have hcz12_0 := cellS122_0 HGz12; have hcz12_1 := cellS122_1 HGz12; have hfz12_0 := blk_frozen HGz12 0; have hfz12_1 := blk_frozen HGz12 1; clear HGz12 hgz12) | (go_at_call 67; (with_reducible refine (tok_reader_while_quote.calls k g s0_0 (wrap64 (s0_1 + 1)) t119 t120 t121 w0 _ ?side1 ?side2 A2.out).mono ?_); (case side1 => repeat (first | (with_reducible first | exact HI0.out | apply IsS122.alloc | apply IsS122.drewN | apply IsS122.drew | apply IsS122.set_0 | apply IsS122.set_1 | refine IsS122.far ?_ NB0_118.out _) | exact HI0.out)); (case side2 => repeat (first | (with_reducible first | exact HB.out | apply below_alloc | apply pw_below_drewN | apply below_drew1 | refine below_set ?_ (IsS122.ge HI0.out) | refine below_set ?_ GE118.out) | exact HB.out)); rintro e w13 ⟨rfl, hi, hb, hk⟩; replace BK118 := Aside0.mk (KeepBut.blk hk (g' := gb118) (o := .cells #[.int .i64 0, .string (⟨#[]⟩ : ByteArray), .int .i64 0, .int .i64 0] 32 (0, 0)) qK NB118_0.out (by simp)); replace HI0 := Aside0.mk (hi); replace HK := Aside0.mk (KeepBut.trans (w := w) qH hk (.inl rfl)); replace HB := Aside0.mk (hb); (try clear hb); (try clear hk); (try clear hi); obtain ⟨HGz14, hgz14⟩ := HI0.out; have hcz14_0 := cellS122_0 HGz14; have hcz14_1 := cellS122_1 HGz14; have hfz14_0 := blk_frozen HGz14 0; have hfz14_1 := blk_frozen HGz14 1; clear HGz14 hgz14; have hnb15 := NB118_0.out; have hnc15 := NB0_118.out; obtain ⟨hcz16_0, hcz16_1, hcz16_2, hcz16_3, hfz16_0, hfz16_1, hfz16_2, hfz16_3⟩ := cells4 BK118.out)); try go_wp2_with (first | (refine bx 2 #[.int .i64 0, .string (⟨#[]⟩ : ByteArray), .int .i64 0, .int .i64 0] 32 ?_; intro gb118 hg w11 hbox hb; have n0_ := Aside0.mk (IsS122.below qI hb); have n1_ := Aside0.mk (KeepBut.trans (w := w) qH (KeepBut.of_below hb g none) (.inl rfl)); have n2_ := bst hb; have n3_ := Aside0.mk (hbox); have n4_ := gkS (w := w) hg; have n5_ := Aside0.mk ((Nat.le_trans HW0.out (by rw [hg]; exact (keep_size (w := w) (g := g) (row := none) qH) : w.heap.size ≤ gb118) : w0.heap.size ≤ gb118)); have n6_ := niS hg; have n7_ := niT hg; clear HI0; clear HK; clear HB; have HI0 := n0_; have HK := n1_; have HB := n2_; have BK118 := n3_; have GW118 := n4_; have GE118 := n5_; have NB0_118 := n6_; have NB118_0 := n7_; clear n0_ n1_ n2_ n3_ n4_ n5_ n6_ n7_; clear hb hbox hg; obtain ⟨HGz12, hgz12⟩ := HI0.out; have hcz12_0 := cellS122_0 HGz12; have hcz12_1 := cellS122_1 HGz12; have hfz12_0 := blk_frozen HGz12 0; have hfz12_1 := blk_frozen HGz12 1; clear HGz12 hgz12) | (go_at_call 67; (with_reducible refine (tok_reader_while_quote.calls k g s0_0 (wrap64 (s0_1 + 1)) t119 t120 t121 w0 _ ?side1 ?side2 A2.out).mono ?_); (case side1 => repeat (first | (with_reducible first | exact HI0.out | apply IsS122.alloc | apply IsS122.drewN | apply IsS122.drew | apply IsS122.set_0 | apply IsS122.set_1 | refine IsS122.far ?_ NB0_118.out _) | exact HI0.out)); (case side2 => repeat (first | (with_reducible first | exact HB.out | apply below_alloc | apply pw_below_drewN | apply below_drew1 | refine below_set ?_ (IsS122.ge HI0.out) | refine below_set ?_ GE118.out) | exact HB.out)); rintro e w13 ⟨rfl, hi, hb, hk⟩; replace BK118 := Aside0.mk (KeepBut.blk hk (g' := gb118) (o := .cells #[.int .i64 0, .string (⟨#[]⟩ : ByteArray), .int .i64 0, .int .i64 0] 32 (0, 0)) qK NB118_0.out (by simp)); replace HI0 := Aside0.mk (hi); replace HK := Aside0.mk (KeepBut.trans (w := w) qH hk (.inl rfl)); replace HB := Aside0.mk (hb); (try clear hb); (try clear hk); (try clear hi); obtain ⟨HGz14, hgz14⟩ := HI0.out; have hcz14_0 := cellS122_0 HGz14; have hcz14_1 := cellS122_1 HGz14; have hfz14_0 := blk_frozen HGz14 0; have hfz14_1 := blk_frozen HGz14 1; clear HGz14 hgz14; have hnb15 := NB118_0.out; have hnc15 := NB0_118.out; obtain ⟨hcz16_0, hcz16_1, hcz16_2, hcz16_3, hfz16_0, hfz16_1, hfz16_2, hfz16_3⟩ := cells4 BK118.out)))
   refine bodyPost_ret (results_ct rfl _ _ gb118 32 #[.int .i64 0, .string (⟨#[]⟩ : ByteArray), .int .i64 0, .int .i64 0] (0, 0) _ rfl qP Tryd.underlying32 rfl (by kernel_rfl)) rfl ?_
   exact ⟨qR, qI, qB, qH⟩
  ·rw [if_neg c10] at H
   have c10b0 := decide_eq_false c10
   have c10b1 : decide (48 < t119.size) = false := decide_eq_false (by omega)
   clear c10
   replace H := Option.bind_eq_some_iff.mp H
   obtain ⟨t122, A170, H⟩ := H
   (try dsimp -simprocs only at H)
   have A17 := Aside0.mk A170
   clear A170
   by_cases c18 : t122 = true
   ·subst c18
    rw [if_pos rfl] at H
    simp only [Option.some.injEq, Prod.mk.injEq] at H
    obtain ⟨rfl, rfl, rfl, rfl, rfl, rfl, rfl⟩ := H
    go_enter Tryd.func106, Tryd.ntmps106
    go_wp2_with (first | (refine bx 2 #[.int .i64 0, .string (⟨#[]⟩ : ByteArray), .int .i64 0, .int .i64 0] 32 ?_; intro gb118 hg w19 hbox hb; have n0_ := Aside0.mk (IsS122.below qI hb); have n1_ := Aside0.mk (KeepBut.trans (w := w) qH (KeepBut.of_below hb g none) (.inl rfl)); have n2_ := bst hb; have n3_ := Aside0.mk (hbox); have n4_ := gkS (w := w) hg; have n5_ := Aside0.mk ((Nat.le_trans HW0.out (by rw [hg]; exact (keep_size (w := w) (g := g) (row := none) qH) : w.heap.size ≤ gb118) : w0.heap.size ≤ gb118)); have n6_ := niS hg; have n7_ := niT hg; clear HI0; clear HK; clear HB; have HI0 := n0_; have HK := n1_; have HB := n2_; have BK118 := n3_; have GW118 := n4_; have GE118 := n5_; have NB0_118 := n6_; have NB118_0 := n7_; clear n0_ n1_ n2_ n3_ n4_ n5_ n6_ n7_; clear hb hbox hg; obtain ⟨HGz20, hgz20⟩ := HI0.out; have hcz20_0 := cellS122_0 HGz20; have hcz20_1 := cellS122_1 HGz20; have hfz20_0 := blk_frozen HGz20 0; have hfz20_1 := blk_frozen HGz20 1; clear HGz20 hgz20) | (go_at_call 67; (with_reducible refine (tok_reader_while_quote.calls k g s0_0 (wrap64 (s0_1 + 1)) t119 t120 t121 w0 _ ?side1 ?side2 A2.out).mono ?_); (case side1 => repeat (first | (with_reducible first | exact HI0.out | apply IsS122.alloc | apply IsS122.drewN | apply IsS122.drew | apply IsS122.set_0 | apply IsS122.set_1 | refine IsS122.far ?_ NB0_118.out _) | exact HI0.out)); (case side2 => repeat (first | (with_reducible first | exact HB.out | apply below_alloc | apply pw_below_drewN | apply below_drew1 | refine below_set ?_ (IsS122.ge HI0.out) | refine below_set ?_ GE118.out) | exact HB.out)); rintro e w21 ⟨rfl, hi, hb, hk⟩; replace BK118 := Aside0.mk (KeepBut.blk hk (g' := gb118) (o := .cells #[.int .i64 0, .string (⟨#[]⟩ : ByteArray), .int .i64 0, .int .i64 0] 32 (0, 0)) qK NB118_0.out (by simp)); replace HI0 := Aside0.mk (hi); replace HK := Aside0.mk (KeepBut.trans (w := w) qH hk (.inl rfl)); replace HB := Aside0.mk (hb); (try clear hb); (try clear hk); (try clear hi); obtain ⟨HGz22, hgz22⟩ := HI0.out; have hcz22_0 := cellS122_0 HGz22; have hcz22_1 := cellS122_1 HGz22; have hfz22_0 := blk_frozen HGz22 0; have hfz22_1 := blk_frozen HGz22 1; clear HGz22 hgz22) | (go_at_call 101; (with_reducible refine (val_Plain.calls t119 true _ A17.out).mono ?_); rintro e w23 ⟨rfl, hb⟩; replace BK118 := kb gb118 hb; replace HI0 := Aside0.mk (IsS122.below (show IsS122 w0 _ g t120 (wrap64 (t121 + 1)) from qI) hb); replace HK := Aside0.mk (KeepBut.trans (w := w) qH (KeepBut.of_below hb g none) (.inl rfl)); replace HB := bst hb; (try clear hb); have hnb24 := NB118_0.out; have hnc24 := NB0_118.out; obtain ⟨hcz25_0, hcz25_1, hcz25_2, hcz25_3, hfz25_0, hfz25_1, hfz25_2, hfz25_3⟩ := cells4 BK118.out))
    repeat (go_quiet (first | (refine bx 2 #[.int .i64 0, .string (⟨#[]⟩ : ByteArray), .int .i64 0, .int .i64 0] 32 ?_; intro gb118 hg w19 hbox hb; have n0_ := Aside0.mk (IsS122.below qI hb); have n1_ := Aside0.mk (KeepBut.trans (w := w) qH (KeepBut.of_below hb g none) (.inl rfl)); have n2_ := bst hb; have n3_ := Aside0.mk (hbox); have n4_ := gkS (w := w) hg; have n5_ := Aside0.mk ((Nat.le_trans HW0.out (by rw [hg]; exact (keep_size (w := w) (g := g) (row := none) qH) : w.heap.size ≤ gb118) : w0.heap.size ≤ gb118)); have n6_ := niS hg; have n7_ := niT hg; clear HI0; clear HK; clear HB; have HI0 := n0_; have HK := n1_; have HB := n2_; have BK118 := n3_; have GW118 := n4_; have GE118 := n5_; have NB0_118 := n6_; have NB118_0 := n7_; clear n0_ n1_ n2_ n3_ n4_ n5_ n6_ n7_; clear hb hbox hg; obtain ⟨HGz20, hgz20⟩ := HI0.out; have hcz20_0 := cellS122_0 HGz20; have hcz20_1 := cellS122_1 HGz20; have hfz20_0 := blk_frozen HGz20 0; have hfz20_1 := blk_frozen HGz20 1; clear HGz20 hgz20) | (go_at_call 67; (with_reducible refine (tok_reader_while_quote.calls k g s0_0 (wrap64 (s0_1 + 1)) t119 t120 t121 w0 _ ?side1 ?side2 A2.out).mono ?_); (case side1 => repeat (first | (with_reducible first | exact HI0.out | apply IsS122.alloc | apply IsS122.drewN | apply IsS122.drew | apply IsS122.set_0 | apply IsS122.set_1 | refine IsS122.far ?_ NB0_118.out _) | exact HI0.out)); (case side2 => repeat (first | (with_reducible first | exact HB.out | apply below_alloc | apply pw_below_drewN | apply below_drew1 | refine below_set ?_ (IsS122.ge HI0.out) | refine below_set ?_ GE118.out) | exact HB.out)); rintro e w21 ⟨rfl, hi, hb, hk⟩; replace BK118 := Aside0.mk (KeepBut.blk hk (g' := gb118) (o := .cells #[.int .i64 0, .string (⟨#[]⟩ : ByteArray), .int .i64 0, .int .i64 0] 32 (0, 0)) qK NB118_0.out (by simp)); replace HI0 := Aside0.mk (hi); replace HK := Aside0.mk (KeepBut.trans (w := w) qH hk (.inl rfl)); replace HB := Aside0.mk (hb); (try clear hb); (try clear hk); (try clear hi); obtain ⟨HGz22, hgz22⟩ := HI0.out; have hcz22_0 := cellS122_0 HGz22; have hcz22_1 := cellS122_1 HGz22; have hfz22_0 := blk_frozen HGz22 0; have hfz22_1 := blk_frozen HGz22 1; clear HGz22 hgz22) | (go_at_call 101; (with_reducible refine (val_Plain.calls t119 true _ A17.out).mono ?_); rintro e w23 ⟨rfl, hb⟩; replace BK118 := kb gb118 hb; replace HI0 := Aside0.mk (IsS122.below (show IsS122 w0 _ g t120 (wrap64 (t121 + 1)) from qI) hb); replace HK := Aside0.mk (KeepBut.trans (w := w) qH (KeepBut.of_below hb g none) (.inl rfl)); replace HB := bst hb; (try clear hb); have hnb24 := NB118_0.out; have hnc24 := NB0_118.out; obtain ⟨hcz25_0, hcz25_1, hcz25_2, hcz25_3, hfz25_0, hfz25_1, hfz25_2, hfz25_3⟩ := cells4 BK118.out)); try go_wp2_with (first | (refine bx 2 #[.int .i64 0, .string (⟨#[]⟩ : ByteArray), .int .i64 0, .int .i64 0] 32 ?_; intro gb118 hg w19 hbox hb; have n0_ := Aside0.mk (IsS122.below qI hb); have n1_ := Aside0.mk (KeepBut.trans (w := w) qH (KeepBut.of_below hb g none) (.inl rfl)); have n2_ := bst hb; have n3_ := Aside0.mk (hbox); have n4_ := gkS (w := w) hg; have n5_ := Aside0.mk ((Nat.le_trans HW0.out (by rw [hg]; exact (keep_size (w := w) (g := g) (row := none) qH) : w.heap.size ≤ gb118) : w0.heap.size ≤ gb118)); have n6_ := niS hg; have n7_ := niT hg; clear HI0; clear HK; clear HB; have HI0 := n0_; have HK := n1_; have HB := n2_; have BK118 := n3_; have GW118 := n4_; have GE118 := n5_; have NB0_118 := n6_; have NB118_0 := n7_; clear n0_ n1_ n2_ n3_ n4_ n5_ n6_ n7_; clear hb hbox hg; obtain ⟨HGz20, hgz20⟩ := HI0.out; have hcz20_0 := cellS122_0 HGz20; have hcz20_1 := cellS122_1 HGz20; have hfz20_0 := blk_frozen HGz20 0; have hfz20_1 := blk_frozen HGz20 1; clear HGz20 hgz20) | (go_at_call 67; (with_reducible refine (tok_reader_while_quote.calls k g s0_0 (wrap64 (s0_1 + 1)) t119 t120 t121 w0 _ ?side1 ?side2 A2.out).mono ?_); (case side1 => repeat (first | (with_reducible first | exact HI0.out | apply IsS122.alloc | apply IsS122.drewN | apply IsS122.drew | apply IsS122.set_0 | apply IsS122.set_1 | refine IsS122.far ?_ NB0_118.out _) | exact HI0.out)); (case side2 => repeat (first | (with_reducible first | exact HB.out | apply below_alloc | apply pw_below_drewN | apply below_drew1 | refine below_set ?_ (IsS122.ge HI0.out) | refine below_set ?_ GE118.out) | exact HB.out)); rintro e w21 ⟨rfl, hi, hb, hk⟩; replace BK118 := Aside0.mk (KeepBut.blk hk (g' := gb118) (o := .cells #[.int .i64 0, .string (⟨#[]⟩ : ByteArray), .int .i64 0, .int .i64 0] 32 (0, 0)) qK NB118_0.out (by simp)); replace HI0 := Aside0.mk (hi); replace HK := Aside0.mk (KeepBut.trans (w := w) qH hk (.inl rfl)); replace HB := Aside0.mk (hb); (try clear hb); (try clear hk); (try clear hi); obtain ⟨HGz22, hgz22⟩ := HI0.out; have hcz22_0 := cellS122_0 HGz22; have hcz22_1 := cellS122_1 HGz22; have hfz22_0 := blk_frozen HGz22 0; have hfz22_1 := blk_frozen HGz22 1; clear HGz22 hgz22) | (go_at_call 101; (with_reducible refine (val_Plain.calls t119 true _ A17.out).mono ?_); rintro e w23 ⟨rfl, hb⟩; replace BK118 := kb gb118 hb; replace HI0 := Aside0.mk (IsS122.below (show IsS122 w0 _ g t120 (wrap64 (t121 + 1)) from qI) hb); replace HK := Aside0.mk (KeepBut.trans (w := w) qH (KeepBut.of_below hb g none) (.inl rfl)); replace HB := bst hb; (try clear hb); have hnb24 := NB118_0.out; have hnc24 := NB0_118.out; obtain ⟨hcz25_0, hcz25_1, hcz25_2, hcz25_3, hfz25_0, hfz25_1, hfz25_2, hfz25_3⟩ := cells4 BK118.out)))
    refine bodyPost_ret (results_ct rfl _ _ gb118 32 #[.int .i64 4, .string t119, .int .i64 0, .int .i64 0] (0, 0) _ rfl qP Tryd.underlying32 rfl (by kernel_rfl)) rfl ?_
    exact ⟨qR, qI, qB, qH⟩
   ·replace c18 := Bool.eq_false_iff.mpr c18
    subst c18
    rw [if_neg (show ¬ (false = true) by decide)] at H
    simp only [Option.some.injEq, Prod.mk.injEq] at H
    obtain ⟨rfl, rfl, rfl, rfl, rfl, rfl, rfl⟩ := H
    go_enter Tryd.func106, Tryd.ntmps106
    go_wp2_with (first | (refine bx 2 #[.int .i64 0, .string (⟨#[]⟩ : ByteArray), .int .i64 0, .int .i64 0] 32 ?_; intro gb118 hg w26 hbox hb; have n0_ := Aside0.mk (IsS122.below qI hb); have n1_ := Aside0.mk (KeepBut.trans (w := w) qH (KeepBut.of_below hb g none) (.inl rfl)); have n2_ := bst hb; have n3_ := Aside0.mk (hbox); have n4_ := gkS (w := w) hg; have n5_ := Aside0.mk ((Nat.le_trans HW0.out (by rw [hg]; exact (keep_size (w := w) (g := g) (row := none) qH) : w.heap.size ≤ gb118) : w0.heap.size ≤ gb118)); have n6_ := niS hg; have n7_ := niT hg; clear HI0; clear HK; clear HB; have HI0 := n0_; have HK := n1_; have HB := n2_; have BK118 := n3_; have GW118 := n4_; have GE118 := n5_; have NB0_118 := n6_; have NB118_0 := n7_; clear n0_ n1_ n2_ n3_ n4_ n5_ n6_ n7_; clear hb hbox hg; obtain ⟨HGz27, hgz27⟩ := HI0.out; have hcz27_0 := cellS122_0 HGz27; have hcz27_1 := cellS122_1 HGz27; have hfz27_0 := blk_frozen HGz27 0; have hfz27_1 := blk_frozen HGz27 1; clear HGz27 hgz27) | (go_at_call 67; (with_reducible refine (tok_reader_while_quote.calls k g s0_0 (wrap64 (s0_1 + 1)) t119 t120 t121 w0 _ ?side1 ?side2 A2.out).mono ?_); (case side1 => repeat (first | (with_reducible first | exact HI0.out | apply IsS122.alloc | apply IsS122.drewN | apply IsS122.drew | apply IsS122.set_0 | apply IsS122.set_1 | refine IsS122.far ?_ NB0_118.out _) | exact HI0.out)); (case side2 => repeat (first | (with_reducible first | exact HB.out | apply below_alloc | apply pw_below_drewN | apply below_drew1 | refine below_set ?_ (IsS122.ge HI0.out) | refine below_set ?_ GE118.out) | exact HB.out)); rintro e w28 ⟨rfl, hi, hb, hk⟩; replace BK118 := Aside0.mk (KeepBut.blk hk (g' := gb118) (o := .cells #[.int .i64 0, .string (⟨#[]⟩ : ByteArray), .int .i64 0, .int .i64 0] 32 (0, 0)) qK NB118_0.out (by simp)); replace HI0 := Aside0.mk (hi); replace HK := Aside0.mk (KeepBut.trans (w := w) qH hk (.inl rfl)); replace HB := Aside0.mk (hb); (try clear hb); (try clear hk); (try clear hi); obtain ⟨HGz29, hgz29⟩ := HI0.out; have hcz29_0 := cellS122_0 HGz29; have hcz29_1 := cellS122_1 HGz29; have hfz29_0 := blk_frozen HGz29 0; have hfz29_1 := blk_frozen HGz29 1; clear HGz29 hgz29) | (go_at_call 101; (with_reducible refine (val_Plain.calls t119 false _ A17.out).mono ?_); rintro e w30 ⟨rfl, hb⟩; replace BK118 := kb gb118 hb; replace HI0 := Aside0.mk (IsS122.below (show IsS122 w0 _ g t120 (wrap64 (t121 + 1)) from qI) hb); replace HK := Aside0.mk (KeepBut.trans (w := w) qH (KeepBut.of_below hb g none) (.inl rfl)); replace HB := bst hb; (try clear hb); have hnb31 := NB118_0.out; have hnc31 := NB0_118.out; obtain ⟨hcz32_0, hcz32_1, hcz32_2, hcz32_3, hfz32_0, hfz32_1, hfz32_2, hfz32_3⟩ := cells4 BK118.out))
    repeat (go_quiet (first | (refine bx 2 #[.int .i64 0, .string (⟨#[]⟩ : ByteArray), .int .i64 0, .int .i64 0] 32 ?_; intro gb118 hg w26 hbox hb; have n0_ := Aside0.mk (IsS122.below qI hb); have n1_ := Aside0.mk (KeepBut.trans (w := w) qH (KeepBut.of_below hb g none) (.inl rfl)); have n2_ := bst hb; have n3_ := Aside0.mk (hbox); have n4_ := gkS (w := w) hg; have n5_ := Aside0.mk ((Nat.le_trans HW0.out (by rw [hg]; exact (keep_size (w := w) (g := g) (row := none) qH) : w.heap.size ≤ gb118) : w0.heap.size ≤ gb118)); have n6_ := niS hg; have n7_ := niT hg; clear HI0; clear HK; clear HB; have HI0 := n0_; have HK := n1_; have HB := n2_; have BK118 := n3_; have GW118 := n4_; have GE118 := n5_; have NB0_118 := n6_; have NB118_0 := n7_; clear n0_ n1_ n2_ n3_ n4_ n5_ n6_ n7_; clear hb hbox hg; obtain ⟨HGz27, hgz27⟩ := HI0.out; have hcz27_0 := cellS122_0 HGz27; have hcz27_1 := cellS122_1 HGz27; have hfz27_0 := blk_frozen HGz27 0; have hfz27_1 := blk_frozen HGz27 1; clear HGz27 hgz27) | (go_at_call 67; (with_reducible refine (tok_reader_while_quote.calls k g s0_0 (wrap64 (s0_1 + 1)) t119 t120 t121 w0 _ ?side1 ?side2 A2.out).mono ?_); (case side1 => repeat (first | (with_reducible first | exact HI0.out | apply IsS122.alloc | apply IsS122.drewN | apply IsS122.drew | apply IsS122.set_0 | apply IsS122.set_1 | refine IsS122.far ?_ NB0_118.out _) | exact HI0.out)); (case side2 => repeat (first | (with_reducible first | exact HB.out | apply below_alloc | apply pw_below_drewN | apply below_drew1 | refine below_set ?_ (IsS122.ge HI0.out) | refine below_set ?_ GE118.out) | exact HB.out)); rintro e w28 ⟨rfl, hi, hb, hk⟩; replace BK118 := Aside0.mk (KeepBut.blk hk (g' := gb118) (o := .cells #[.int .i64 0, .string (⟨#[]⟩ : ByteArray), .int .i64 0, .int .i64 0] 32 (0, 0)) qK NB118_0.out (by simp)); replace HI0 := Aside0.mk (hi); replace HK := Aside0.mk (KeepBut.trans (w := w) qH hk (.inl rfl)); replace HB := Aside0.mk (hb); (try clear hb); (try clear hk); (try clear hi); obtain ⟨HGz29, hgz29⟩ := HI0.out; have hcz29_0 := cellS122_0 HGz29; have hcz29_1 := cellS122_1 HGz29; have hfz29_0 := blk_frozen HGz29 0; have hfz29_1 := blk_frozen HGz29 1; clear HGz29 hgz29) | (go_at_call 101; (with_reducible refine (val_Plain.calls t119 false _ A17.out).mono ?_); rintro e w30 ⟨rfl, hb⟩; replace BK118 := kb gb118 hb; replace HI0 := Aside0.mk (IsS122.below (show IsS122 w0 _ g t120 (wrap64 (t121 + 1)) from qI) hb); replace HK := Aside0.mk (KeepBut.trans (w := w) qH (KeepBut.of_below hb g none) (.inl rfl)); replace HB := bst hb; (try clear hb); have hnb31 := NB118_0.out; have hnc31 := NB0_118.out; obtain ⟨hcz32_0, hcz32_1, hcz32_2, hcz32_3, hfz32_0, hfz32_1, hfz32_2, hfz32_3⟩ := cells4 BK118.out)); try go_wp2_with (first | (refine bx 2 #[.int .i64 0, .string (⟨#[]⟩ : ByteArray), .int .i64 0, .int .i64 0] 32 ?_; intro gb118 hg w26 hbox hb; have n0_ := Aside0.mk (IsS122.below qI hb); have n1_ := Aside0.mk (KeepBut.trans (w := w) qH (KeepBut.of_below hb g none) (.inl rfl)); have n2_ := bst hb; have n3_ := Aside0.mk (hbox); have n4_ := gkS (w := w) hg; have n5_ := Aside0.mk ((Nat.le_trans HW0.out (by rw [hg]; exact (keep_size (w := w) (g := g) (row := none) qH) : w.heap.size ≤ gb118) : w0.heap.size ≤ gb118)); have n6_ := niS hg; have n7_ := niT hg; clear HI0; clear HK; clear HB; have HI0 := n0_; have HK := n1_; have HB := n2_; have BK118 := n3_; have GW118 := n4_; have GE118 := n5_; have NB0_118 := n6_; have NB118_0 := n7_; clear n0_ n1_ n2_ n3_ n4_ n5_ n6_ n7_; clear hb hbox hg; obtain ⟨HGz27, hgz27⟩ := HI0.out; have hcz27_0 := cellS122_0 HGz27; have hcz27_1 := cellS122_1 HGz27; have hfz27_0 := blk_frozen HGz27 0; have hfz27_1 := blk_frozen HGz27 1; clear HGz27 hgz27) | (go_at_call 67; (with_reducible refine (tok_reader_while_quote.calls k g s0_0 (wrap64 (s0_1 + 1)) t119 t120 t121 w0 _ ?side1 ?side2 A2.out).mono ?_); (case side1 => repeat (first | (with_reducible first | exact HI0.out | apply IsS122.alloc | apply IsS122.drewN | apply IsS122.drew | apply IsS122.set_0 | apply IsS122.set_1 | refine IsS122.far ?_ NB0_118.out _) | exact HI0.out)); (case side2 => repeat (first | (with_reducible first | exact HB.out | apply below_alloc | apply pw_below_drewN | apply below_drew1 | refine below_set ?_ (IsS122.ge HI0.out) | refine below_set ?_ GE118.out) | exact HB.out)); rintro e w28 ⟨rfl, hi, hb, hk⟩; replace BK118 := Aside0.mk (KeepBut.blk hk (g' := gb118) (o := .cells #[.int .i64 0, .string (⟨#[]⟩ : ByteArray), .int .i64 0, .int .i64 0] 32 (0, 0)) qK NB118_0.out (by simp)); replace HI0 := Aside0.mk (hi); replace HK := Aside0.mk (KeepBut.trans (w := w) qH hk (.inl rfl)); replace HB := Aside0.mk (hb); (try clear hb); (try clear hk); (try clear hi); obtain ⟨HGz29, hgz29⟩ := HI0.out; have hcz29_0 := cellS122_0 HGz29; have hcz29_1 := cellS122_1 HGz29; have hfz29_0 := blk_frozen HGz29 0; have hfz29_1 := blk_frozen HGz29 1; clear HGz29 hgz29) | (go_at_call 101; (with_reducible refine (val_Plain.calls t119 false _ A17.out).mono ?_); rintro e w30 ⟨rfl, hb⟩; replace BK118 := kb gb118 hb; replace HI0 := Aside0.mk (IsS122.below (show IsS122 w0 _ g t120 (wrap64 (t121 + 1)) from qI) hb); replace HK := Aside0.mk (KeepBut.trans (w := w) qH (KeepBut.of_below hb g none) (.inl rfl)); replace HB := bst hb; (try clear hb); have hnb31 := NB118_0.out; have hnc31 := NB0_118.out; obtain ⟨hcz32_0, hcz32_1, hcz32_2, hcz32_3, hfz32_0, hfz32_1, hfz32_2, hfz32_3⟩ := cells4 BK118.out)))
    refine bodyPost_ret (results_ct rfl _ _ gb118 32 #[.int .i64 0, .string (⟨#[]⟩ : ByteArray), .int .i64 0, .int .i64 0] (0, 0) _ rfl qP Tryd.underlying32 rfl (by kernel_rfl)) rfl ?_
    exact ⟨qR, qI, qB, qH⟩
def stringslite_HasPrefix.f (a0 : ByteArray) (a1 : ByteArray) : Option (Bool) := if (a0.size : Int) ≥ (a1.size : Int) then (if 0 ≤ (a1.size : Int) then (if (a1.size : Int) ≤ (a0.size : Int) then (some ((a0.extract 0 ((a1.size : Int) : Int).toNat).toList == a1.toList)) else (none)) else (none)) else (some false)
set_option maxHeartbeats 8000000 in
set_option maxRecDepth 100000 in
theorem stringslite_HasPrefix.calls (a0 : ByteArray) (a1 : ByteArray) (r : Bool) (w : World) (h : stringslite_HasPrefix.f a0 a1 = some r) :
  Calls Tryd.prog 153 #[.string a0, .string a1] w fun e w' => e = .returned (.bool r) ∧ Drawn0 w w' := by
 have H : (if (a0.size : Int) ≥ (a1.size : Int) then (if 0 ≤ (a1.size : Int) then (if (a1.size : Int) ≤ (a0.size : Int) then (some ((a0.extract 0 ((a1.size : Int) : Int).toNat).toList == a1.toList)) else (none)) else (none)) else (some false)) = some r := h
 clear h
 by_cases c3 : (a0.size : Int) ≥ (a1.size : Int)
 ·rw [if_pos c3] at H
  have c3b0 := decide_eq_true c3
  have c3b1 : decide (a1.size ≤ a0.size) = true := decide_eq_true (Int.ofNat_le.mp c3)
  clear c3
  by_cases c4 : 0 ≤ (a1.size : Int)
  ·rw [if_pos c4] at H
   have c4b0 := eq_true c4
   have c4b1 := decide_eq_true c4
   clear c4
   by_cases c5 : (a1.size : Int) ≤ (a0.size : Int)
   ·rw [if_pos c5] at H
    have c5b0 := eq_true c5
    have c5b1 := decide_eq_true c5
    clear c5
    obtain rfl := Option.some.inj H
    go_enter Tryd.func153, Tryd.ntmps153
    go_wp2
    go_ret
    exact ⟨by first | rfl | (simp; done) | (simp [*]; done), by repeat (first | exact Drawn0.refl _ | apply Drawn0.step)⟩
   ·rw [if_neg c5] at H
    exact absurd H (by simp)
  ·rw [if_neg c4] at H
   exact absurd H (by simp)
 ·rw [if_neg c3] at H
  have c3b0 := decide_eq_false c3
  have c3b1 : decide (a1.size ≤ a0.size) = false := decide_eq_false (fun h => c3 (Int.ofNat_le.mpr h))
  clear c3
  obtain rfl := Option.some.inj H
  go_enter Tryd.func153, Tryd.ntmps153
  go_wp2
  go_ret
  exact ⟨by first | rfl | (simp; done) | (simp [*]; done), by repeat (first | exact Drawn0.refl _ | apply Drawn0.step)⟩
def strings_HasPrefix.f (a0 : ByteArray) (a1 : ByteArray) : Option (Bool) := (stringslite_HasPrefix.f a0 a1).bind fun t123 => (some t123)
set_option maxHeartbeats 8000000 in
set_option maxRecDepth 100000 in
theorem strings_HasPrefix.calls (a0 : ByteArray) (a1 : ByteArray) (r : Bool) (w : World) (h : strings_HasPrefix.f a0 a1 = some r) :
  Calls Tryd.prog 134 #[.string a0, .string a1] w fun e w' => e = .returned (.bool r) ∧ Drawn0 w w' := by
 have H : ((stringslite_HasPrefix.f a0 a1).bind fun t123 => (some t123)) = some r := h
 clear h
 replace H := Option.bind_eq_some_iff.mp H
 obtain ⟨t123, A30, H⟩ := H
 (try dsimp -simprocs only at H)
 have A3 := Aside0.mk A30
 clear A30
 obtain rfl := Option.some.inj H
 go_enter Tryd.func134, Tryd.ntmps134
 go_wp2_with (first | (refine gl (some 7) #[.string a0, .string a1] Tryd.func153 ?_; (with_reducible refine (stringslite_HasPrefix.calls a0 a1 t123 _ A3.out).mono ?_); rintro e w' ⟨rfl, ⟨nd, rfl⟩⟩; refine ⟨_, rfl, ?_⟩))
 go_ret
 exact ⟨by first | rfl | (simp; done) | (simp [*]; done), by repeat (first | exact Drawn0.refl _ | apply Drawn0.step)⟩
end Go.Proofs.YtbngfhlciebeeaaDoor.L
