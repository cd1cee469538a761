/- Printed and hand-written steps towards the row (TreePlays), those that it reaches. -/
import Derived.Test.YtbngfhlciebeeaaDoorTreePlaysG4
import Derived.Test.YtbngfhlciebeeaaDoorTreePlaysG5
import Derived.Test.YtbngfhlciebeeaaDoorTreePlaysG6
import Derived.Test.YtbngfhlciebeeaaDoorTreePlaysG8
import Derived.Test.YtbngfhlciebeeaaDoorTreePlaysG7
section
namespace Go.Proofs.YtbngfhlciebeeaaDoor.L
open Go.RowKit Go.Proofs.YtbngfhlciebeeaaDoorW.PrintWords Go.Proofs.YtbngfhlciebeeaaDoorW.PrintLast Go.Proofs.YtbngfhlciebeeaaDoorW.PrintMore
attribute [local go_sem] max2_int min2_int max_two min_two max_three min_three max_four min_four   -- for this text's walks alone
set_option linter.unusedVariables false
set_option linter.unusedSimpArgs false
def tok_reader_token.f (k : Nat) (s0_0 : ByteArray) (s0_1 : Int) : Option (Int × ByteArray × Int × Int × Int × ByteArray × Int) := if 0 ≤ s0_1 then (if s0_1 < (s0_0.size : Int) then ((tok_small.f (bt s0_0 s0_1)).bind fun t125 => (if t125 = true then ((tok_reader_path.f k s0_0 s0_1).bind fun bt126 => (some (bt126.1, bt126.2.1, bt126.2.2.1, bt126.2.2.2.1, bt126.2.2.2.2.1, bt126.2.2.2.2.2.1, bt126.2.2.2.2.2.2))) else ((tok_digit.f (bt s0_0 s0_1)).bind fun t133 => (if t133 = true then ((tok_reader_number.f k s0_0 s0_1).bind fun bt134 => (some (bt134.1, bt134.2.1, bt134.2.2.1, bt134.2.2.2.1, bt134.2.2.2.2.1, bt134.2.2.2.2.2.1, bt134.2.2.2.2.2.2))) else (if (bt s0_0 s0_1) = 39 then ((tok_reader_quote.f k s0_0 s0_1).bind fun bt141 => (some (bt141.1, bt141.2.1, bt141.2.2.1, bt141.2.2.2.1, bt141.2.2.2.2.1, bt141.2.2.2.2.2.1, bt141.2.2.2.2.2.2))) else ((tok_reader_sign.f s0_0 s0_1).bind fun bt148 => (some (bt148.1, bt148.2.1, bt148.2.2.1, bt148.2.2.2.1, bt148.2.2.2.2.1, bt148.2.2.2.2.2.1, bt148.2.2.2.2.2.2)))))))) else (none)) else (none)
set_option maxHeartbeats 8000000 in
set_option maxRecDepth 100000 in
theorem tok_reader_token.calls (k : Nat) (g : Nat) (s0_0 : ByteArray) (s0_1 : Int) (r1 : Int) (r2 : ByteArray) (r3 : Int) (r4 : Int) (r5 : Int) (r6 : ByteArray) (r7 : Int) (w0 w : World) (hI : IsS122 w0 w g s0_0 s0_1) (hB : Below w0.heap.size w0 w) (hL : Laid w0) (h : tok_reader_token.f k s0_0 s0_1 = some (r1, r2, r3, r4, r5, r6, r7)) :
  Calls Tryd.prog 69 #[.pointer (some ⟨g, 0, none⟩)] w fun e w' => e = .returned (.tuple #[.agg #[.int .i64 r1, .string r2, .int .i64 r3, .int .i64 r4], .int .i64 r5]) ∧ IsS122 w0 w' g r6 r7 ∧ Below w0.heap.size w0 w' ∧ KeepBut w w' g none := by
 have hu32 := Tryd.underlying32
 have HI0 := Aside0.mk hI
 have HK := Aside0.mk (KeepBut.refl w g none)
 have HL := Aside0.mk hB.size
 clear hI
 have HW0 := Aside0.mk hB.size
 have HB := Aside0.mk hB
 clear hB
 have HLD := Aside0.mk hL
 clear hL
 have H : (if 0 ≤ s0_1 then (if s0_1 < (s0_0.size : Int) then ((tok_small.f (bt s0_0 s0_1)).bind fun t125 => (if t125 = true then ((tok_reader_path.f k s0_0 s0_1).bind fun bt126 => (some (bt126.1, bt126.2.1, bt126.2.2.1, bt126.2.2.2.1, bt126.2.2.2.2.1, bt126.2.2.2.2.2.1, bt126.2.2.2.2.2.2))) else ((tok_digit.f (bt s0_0 s0_1)).bind fun t133 => (if t133 = true then ((tok_reader_number.f k s0_0 s0_1).bind fun bt134 => (some (bt134.1, bt134.2.1, bt134.2.2.1, bt134.2.2.2.1, bt134.2.2.2.2.1, bt134.2.2.2.2.2.1, bt134.2.2.2.2.2.2))) else (if (bt s0_0 s0_1) = 39 then ((tok_reader_quote.f k s0_0 s0_1).bind fun bt141 => (some (bt141.1, bt141.2.1, bt141.2.2.1, bt141.2.2.2.1, bt141.2.2.2.2.1, bt141.2.2.2.2.2.1, bt141.2.2.2.2.2.2))) else ((tok_reader_sign.f s0_0 s0_1).bind fun bt148 => (some (bt148.1, bt148.2.1, bt148.2.2.1, bt148.2.2.2.1, bt148.2.2.2.2.1, bt148.2.2.2.2.2.1, bt148.2.2.2.2.2.2)))))))) else (none)) else (none)) = some (r1, r2, r3, r4, r5, r6, r7) := h
 clear h
 replace H := iD H
 rcases H with ⟨c2b0, H⟩ | ⟨c2b0, H⟩
 ·by_cases c3 : s0_1 < (s0_0.size : Int)
  ·rw [if_pos c3] at H
   have c3b0 := decide_eq_true c3
   clear c3
   replace H := Option.bind_eq_some_iff.mp H
   obtain ⟨t125, A50, H⟩ := H
   (try dsimp -simprocs only at H)
   have A5 := Aside0.mk A50
   clear A50
   by_cases c6 : t125 = true
   ·subst c6
    rw [if_pos rfl] at H
    replace H := Option.bind_eq_some_iff.mp H
    obtain ⟨⟨t126, t127, t128, t129, t130, t131, t132⟩, A70, H⟩ := H
    (try dsimp -simprocs only at H)
    have A7 := Aside0.mk A70
    clear A70
    simp only [Option.some.injEq, Prod.mk.injEq] at H
    obtain ⟨rfl, rfl, rfl, rfl, rfl, rfl, rfl⟩ := H
    go_enter Tryd.func69, Tryd.ntmps69
    go_wp2_with (first | ((with_reducible refine gd 2 rfl ?_); refine bx 2 #[.int .i64 0, .string (⟨#[]⟩ : ByteArray), .int .i64 0, .int .i64 0] 32 ?_; intro gb124 hg w8 hbox hb; have n0_ := Aside0.mk (IsS122.below qI hb); have n1_ := Aside0.mk (KeepBut.trans (w := w) qH (KeepBut.of_below hb g none) (.inl rfl)); have n2_ := bst hb; have n3_ := Aside0.mk (hbox); have n4_ := gkS (w := w) hg; have n5_ := Aside0.mk ((Nat.le_trans HW0.out (by rw [hg]; exact (keep_size (w := w) (g := g) (row := none) qH) : w.heap.size ≤ gb124) : w0.heap.size ≤ gb124)); have n6_ := niS hg; have n7_ := niT hg; clear HI0; clear HK; clear HB; have HI0 := n0_; have HK := n1_; have HB := n2_; have BK124 := n3_; have GW124 := n4_; have GE124 := n5_; have NB0_124 := n6_; have NB124_0 := n7_; clear n0_ n1_ n2_ n3_ n4_ n5_ n6_ n7_; clear hb hbox hg; obtain ⟨_, _, _, _⟩ := cellsI HI0.out; have p4 : 0 ≤ (s0_1 : Int) := qD; have q4 : s0_1 < (s0_0.size : Int) := qD; have hx4 := bt_at s0_0 s0_1; replace p4 := eq_true p4; replace q4 := eq_true q4) | (go_at_call 102; (with_reducible refine (tok_small.calls (bt s0_0 s0_1) true _ A5.out).mono ?_); rintro e w' ⟨rfl, ⟨nd, rfl⟩⟩; (try exact qW)) | (go_at_call 103; (with_reducible refine (tok_reader_path.calls k g s0_0 s0_1 t126 t127 t128 t129 t130 t131 t132 w0 _ ?side1 ?side2 A7.out).mono ?_); (case side1 => exact qI); (case side2 => exact qB); rintro e w10 ⟨rfl, hi, hb, hk⟩; replace BK124 := kk gb124 hk NB124_0; replace HI0 := Aside0.mk (hi); replace HK := Aside0.mk (KeepBut.trans (w := w) qH hk (.inl rfl)); replace HB := Aside0.mk (hb); (try clear hb); (try clear hk); (try clear hi); have := NB124_0.out; have := NB0_124.out; obtain ⟨_, _, _, _, _, _, _, _⟩ := cells4 BK124.out))
    repeat (go_quiet (first | ((with_reducible refine gd 2 rfl ?_); refine bx 2 #[.int .i64 0, .string (⟨#[]⟩ : ByteArray), .int .i64 0, .int .i64 0] 32 ?_; intro gb124 hg w8 hbox hb; have n0_ := Aside0.mk (IsS122.below qI hb); have n1_ := Aside0.mk (KeepBut.trans (w := w) qH (KeepBut.of_below hb g none) (.inl rfl)); have n2_ := bst hb; have n3_ := Aside0.mk (hbox); have n4_ := gkS (w := w) hg; have n5_ := Aside0.mk ((Nat.le_trans HW0.out (by rw [hg]; exact (keep_size (w := w) (g := g) (row := none) qH) : w.heap.size ≤ gb124) : w0.heap.size ≤ gb124)); have n6_ := niS hg; have n7_ := niT hg; clear HI0; clear HK; clear HB; have HI0 := n0_; have HK := n1_; have HB := n2_; have BK124 := n3_; have GW124 := n4_; have GE124 := n5_; have NB0_124 := n6_; have NB124_0 := n7_; clear n0_ n1_ n2_ n3_ n4_ n5_ n6_ n7_; clear hb hbox hg; obtain ⟨_, _, _, _⟩ := cellsI HI0.out; have p4 : 0 ≤ (s0_1 : Int) := qD; have q4 : s0_1 < (s0_0.size : Int) := qD; have hx4 := bt_at s0_0 s0_1; replace p4 := eq_true p4; replace q4 := eq_true q4) | (go_at_call 102; (with_reducible refine (tok_small.calls (bt s0_0 s0_1) true _ A5.out).mono ?_); rintro e w' ⟨rfl, ⟨nd, rfl⟩⟩; (try exact qW)) | (go_at_call 103; (with_reducible refine (tok_reader_path.calls k g s0_0 s0_1 t126 t127 t128 t129 t130 t131 t132 w0 _ ?side1 ?side2 A7.out).mono ?_); (case side1 => exact qI); (case side2 => exact qB); rintro e w10 ⟨rfl, hi, hb, hk⟩; replace BK124 := kk gb124 hk NB124_0; replace HI0 := Aside0.mk (hi); replace HK := Aside0.mk (KeepBut.trans (w := w) qH hk (.inl rfl)); replace HB := Aside0.mk (hb); (try clear hb); (try clear hk); (try clear hi); have := NB124_0.out; have := NB0_124.out; obtain ⟨_, _, _, _, _, _, _, _⟩ := cells4 BK124.out)); try go_wp2_with (first | ((with_reducible refine gd 2 rfl ?_); refine bx 2 #[.int .i64 0, .string (⟨#[]⟩ : ByteArray), .int .i64 0, .int .i64 0] 32 ?_; intro gb124 hg w8 hbox hb; have n0_ := Aside0.mk (IsS122.below qI hb); have n1_ := Aside0.mk (KeepBut.trans (w := w) qH (KeepBut.of_below hb g none) (.inl rfl)); have n2_ := bst hb; have n3_ := Aside0.mk (hbox); have n4_ := gkS (w := w) hg; have n5_ := Aside0.mk ((Nat.le_trans HW0.out (by rw [hg]; exact (keep_size (w := w) (g := g) (row := none) qH) : w.heap.size ≤ gb124) : w0.heap.size ≤ gb124)); have n6_ := niS hg; have n7_ := niT hg; clear HI0; clear HK; clear HB; have HI0 := n0_; have HK := n1_; have HB := n2_; have BK124 := n3_; have GW124 := n4_; have GE124 := n5_; have NB0_124 := n6_; have NB124_0 := n7_; clear n0_ n1_ n2_ n3_ n4_ n5_ n6_ n7_; clear hb hbox hg; obtain ⟨_, _, _, _⟩ := cellsI HI0.out; have p4 : 0 ≤ (s0_1 : Int) := qD; have q4 : s0_1 < (s0_0.size : Int) := qD; have hx4 := bt_at s0_0 s0_1; replace p4 := eq_true p4; replace q4 := eq_true q4) | (go_at_call 102; (with_reducible refine (tok_small.calls (bt s0_0 s0_1) true _ A5.out).mono ?_); rintro e w' ⟨rfl, ⟨nd, rfl⟩⟩; (try exact qW)) | (go_at_call 103; (with_reducible refine (tok_reader_path.calls k g s0_0 s0_1 t126 t127 t128 t129 t130 t131 t132 w0 _ ?side1 ?side2 A7.out).mono ?_); (case side1 => exact qI); (case side2 => exact qB); rintro e w10 ⟨rfl, hi, hb, hk⟩; replace BK124 := kk gb124 hk NB124_0; replace HI0 := Aside0.mk (hi); replace HK := Aside0.mk (KeepBut.trans (w := w) qH hk (.inl rfl)); replace HB := Aside0.mk (hb); (try clear hb); (try clear hk); (try clear hi); have := NB124_0.out; have := NB0_124.out; obtain ⟨_, _, _, _, _, _, _, _⟩ := cells4 BK124.out)))
    refine rct gb124 32 #[.int .i64 t126, .string t127, .int .i64 t128, .int .i64 t129] Tryd.underlying32 ?_
    exact ⟨qR, qI, qB, qH⟩
   replace c6 := Bool.eq_false_iff.mpr c6
   subst c6
   rw [if_neg (show ¬ (false = true) by decide)] at H
   replace H := Option.bind_eq_some_iff.mp H
   obtain ⟨t133, A130, H⟩ := H
   (try dsimp -simprocs only at H)
   have A13 := Aside0.mk A130
   clear A130
   by_cases c14 : t133 = true
   ·subst c14
    rw [if_pos rfl] at H
    replace H := Option.bind_eq_some_iff.mp H
    obtain ⟨⟨t134, t135, t136, t137, t138, t139, t140⟩, A150, H⟩ := H
    (try dsimp -simprocs only at H)
    have A15 := Aside0.mk A150
    clear A150
    simp only [Option.some.injEq, Prod.mk.injEq] at H
    obtain ⟨rfl, rfl, rfl, rfl, rfl, rfl, rfl⟩ := H
    go_enter Tryd.func69, Tryd.ntmps69
    go_wp2_with (first | ((with_reducible refine gd 2 rfl ?_); refine bx 2 #[.int .i64 0, .string (⟨#[]⟩ : ByteArray), .int .i64 0, .int .i64 0] 32 ?_; intro gb124 hg w16 hbox hb; have n0_ := Aside0.mk (IsS122.below qI hb); have n1_ := Aside0.mk (KeepBut.trans (w := w) qH (KeepBut.of_below hb g none) (.inl rfl)); have n2_ := bst hb; have n3_ := Aside0.mk (hbox); have n4_ := gkS (w := w) hg; have n5_ := Aside0.mk ((Nat.le_trans HW0.out (by rw [hg]; exact (keep_size (w := w) (g := g) (row := none) qH) : w.heap.size ≤ gb124) : w0.heap.size ≤ gb124)); have n6_ := niS hg; have n7_ := niT hg; clear HI0; clear HK; clear HB; have HI0 := n0_; have HK := n1_; have HB := n2_; have BK124 := n3_; have GW124 := n4_; have GE124 := n5_; have NB0_124 := n6_; have NB124_0 := n7_; clear n0_ n1_ n2_ n3_ n4_ n5_ n6_ n7_; clear hb hbox hg; obtain ⟨_, _, _, _⟩ := cellsI HI0.out; have p4 : 0 ≤ (s0_1 : Int) := qD; have q4 : s0_1 < (s0_0.size : Int) := qD; have hx4 := bt_at s0_0 s0_1; replace p4 := eq_true p4; replace q4 := eq_true q4) | (go_at_call 102; (with_reducible refine (tok_small.calls (bt s0_0 s0_1) false _ A5.out).mono ?_); rintro e w' ⟨rfl, ⟨nd, rfl⟩⟩; (try exact qW)) | (go_at_call 104; (with_reducible refine (tok_digit.calls (bt s0_0 s0_1) true _ A13.out).mono ?_); rintro e w' ⟨rfl, ⟨nd, rfl⟩⟩; (try exact qW)) | (go_at_call 105; (with_reducible refine (tok_reader_number.calls k g s0_0 s0_1 t134 t135 t136 t137 t138 t139 t140 w0 _ ?side1 ?side2 A15.out).mono ?_); (case side1 => exact qI); (case side2 => exact qB); rintro e w18 ⟨rfl, hi, hb, hk⟩; replace BK124 := kk gb124 hk NB124_0; replace HI0 := Aside0.mk (hi); replace HK := Aside0.mk (KeepBut.trans (w := w) qH hk (.inl rfl)); replace HB := Aside0.mk (hb); (try clear hb); (try clear hk); (try clear hi); have := NB124_0.out; have := NB0_124.out; obtain ⟨_, _, _, _, _, _, _, _⟩ := cells4 BK124.out))
    repeat (go_quiet (first | ((with_reducible refine gd 2 rfl ?_); refine bx 2 #[.int .i64 0, .string (⟨#[]⟩ : ByteArray), .int .i64 0, .int .i64 0] 32 ?_; intro gb124 hg w16 hbox hb; have n0_ := Aside0.mk (IsS122.below qI hb); have n1_ := Aside0.mk (KeepBut.trans (w := w) qH (KeepBut.of_below hb g none) (.inl rfl)); have n2_ := bst hb; have n3_ := Aside0.mk (hbox); have n4_ := gkS (w := w) hg; have n5_ := Aside0.mk ((Nat.le_trans HW0.out (by rw [hg]; exact (keep_size (w := w) (g := g) (row := none) qH) : w.heap.size ≤ gb124) : w0.heap.size ≤ gb124)); have n6_ := niS hg; have n7_ := niT hg; clear HI0; clear HK; clear HB; have HI0 := n0_; have HK := n1_; have HB := n2_; have BK124 := n3_; have GW124 := n4_; have GE124 := n5_; have NB0_124 := n6_; have NB124_0 := n7_; clear n0_ n1_ n2_ n3_ n4_ n5_ n6_ n7_; clear hb hbox hg; obtain ⟨_, _, _, _⟩ := cellsI HI0.out; have p4 : 0 ≤ (s0_1 : Int) := qD; have q4 : s0_1 < (s0_0.size : Int) := qD; have hx4 := bt_at s0_0 s0_1; replace p4 := eq_true p4; replace q4 := eq_true q4) | (go_at_call 102; (with_reducible refine (tok_small.calls (bt s0_0 s0_1) false _ A5.out).mono ?_); rintro e w' ⟨rfl, ⟨nd, rfl⟩⟩; (try exact qW)) | (go_at_call 104; (with_reducible refine (tok_digit.calls (bt s0_0 s0_1) true _ A13.out).mono ?_); rintro e w' ⟨rfl, ⟨nd, rfl⟩⟩; (try exact qW)) | (go_at_call 105; (with_reducible refine (tok_reader_number.calls k g s0_0 s0_1 t134 t135 t136 t137 t138 t139 t140 w0 _ ?side1 ?side2 A15.out).mono ?_); (case side1 => exact qI); (case side2 => exact qB); rintro e w18 ⟨rfl, hi, hb, hk⟩; replace BK124 := kk gb124 hk NB124_0; replace HI0 := Aside0.mk (hi); replace HK := Aside0.mk (KeepBut.trans (w := w) qH hk (.inl rfl)); replace HB := Aside0.mk (hb); (try clear hb); (try clear hk); (try clear hi); have := NB124_0.out; have := NB0_124.out; obtain ⟨_, _, _, _, _, _, _, _⟩ := cells4 BK124.out)); try go_wp2_with (first | ((with_reducible refine gd 2 rfl ?_); refine bx 2 #[.int .i64 0, .string (⟨#[]⟩ : ByteArray), .int .i64 0, .int .i64 0] 32 ?_; intro gb124 hg w16 hbox hb; have n0_ := Aside0.mk (IsS122.below qI hb); have n1_ := Aside0.mk (KeepBut.trans (w := w) qH (KeepBut.of_below hb g none) (.inl rfl)); have n2_ := bst hb; have n3_ := Aside0.mk (hbox); have n4_ := gkS (w := w) hg; have n5_ := Aside0.mk ((Nat.le_trans HW0.out (by rw [hg]; exact (keep_size (w := w) (g := g) (row := none) qH) : w.heap.size ≤ gb124) : w0.heap.size ≤ gb124)); have n6_ := niS hg; have n7_ := niT hg; clear HI0; clear HK; clear HB; have HI0 := n0_; have HK := n1_; have HB := n2_; have BK124 := n3_; have GW124 := n4_; have GE124 := n5_; have NB0_124 := n6_; have NB124_0 := n7_; clear n0_ n1_ n2_ n3_ n4_ n5_ n6_ n7_; clear hb hbox hg; obtain ⟨_, _, _, _⟩ := cellsI HI0.out; have p4 : 0 ≤ (s0_1 : Int) := qD; have q4 : s0_1 < (s0_0.size : Int) := qD; have hx4 := bt_at s0_0 s0_1; replace p4 := eq_true p4; replace q4 := eq_true q4) | (go_at_call 102; (with_reducible refine (tok_small.calls (bt s0_0 s0_1) false _ A5.out).mono ?_); rintro e w' ⟨rfl, ⟨nd, rfl⟩⟩; (try exact qW)) | (go_at_call 104; (with_reducible refine (tok_digit.calls (bt s0_0 s0_1) true _ A13.out).mono ?_); rintro e w' ⟨rfl, ⟨nd, rfl⟩⟩; (try exact qW)) | (go_at_call 105; (with_reducible refine (tok_reader_number.calls k g s0_0 s0_1 t134 t135 t136 t137 t138 t139 t140 w0 _ ?side1 ?side2 A15.out).mono ?_); (case side1 => exact qI); (case side2 => exact qB); rintro e w18 ⟨rfl, hi, hb, hk⟩; replace BK124 := kk gb124 hk NB124_0; replace HI0 := Aside0.mk (hi); replace HK := Aside0.mk (KeepBut.trans (w := w) qH hk (.inl rfl)); replace HB := Aside0.mk (hb); (try clear hb); (try clear hk); (try clear hi); have := NB124_0.out; have := NB0_124.out; obtain ⟨_, _, _, _, _, _, _, _⟩ := cells4 BK124.out)))
    refine rct gb124 32 #[.int .i64 t134, .string t135, .int .i64 t136, .int .i64 t137] Tryd.underlying32 ?_
    exact ⟨qR, qI, qB, qH⟩
   replace c14 := Bool.eq_false_iff.mpr c14
   subst c14
   rw [if_neg (show ¬ (false = true) by decide)] at H
   by_cases c21 : (bt s0_0 s0_1) = 39
   ·rw [if_pos c21] at H
    have c21b0 := beq_iff_eq.mpr c21
    have c21b1 := bne_eq_false_iff_eq.mpr c21
    clear c21
    replace H := Option.bind_eq_some_iff.mp H
    obtain ⟨⟨t141, t142, t143, t144, t145, t146, t147⟩, A220, H⟩ := H
    (try dsimp -simprocs only at H)
    have A22 := Aside0.mk A220
    clear A220
    simp only [Option.some.injEq, Prod.mk.injEq] at H
    obtain ⟨rfl, rfl, rfl, rfl, rfl, rfl, rfl⟩ := H
    go_enter Tryd.func69, Tryd.ntmps69
    go_wp2_with (first | ((with_reducible refine gd 2 rfl ?_); refine bx 2 #[.int .i64 0, .string (⟨#[]⟩ : ByteArray), .int .i64 0, .int .i64 0] 32 ?_; intro gb124 hg w23 hbox hb; have n0_ := Aside0.mk (IsS122.below qI hb); have n1_ := Aside0.mk (KeepBut.trans (w := w) qH (KeepBut.of_below hb g none) (.inl rfl)); have n2_ := bst hb; have n3_ := Aside0.mk (hbox); have n4_ := gkS (w := w) hg; have n5_ := Aside0.mk ((Nat.le_trans HW0.out (by rw [hg]; exact (keep_size (w := w) (g := g) (row := none) qH) : w.heap.size ≤ gb124) : w0.heap.size ≤ gb124)); have n6_ := niS hg; have n7_ := niT hg; clear HI0; clear HK; clear HB; have HI0 := n0_; have HK := n1_; have HB := n2_; have BK124 := n3_; have GW124 := n4_; have GE124 := n5_; have NB0_124 := n6_; have NB124_0 := n7_; clear n0_ n1_ n2_ n3_ n4_ n5_ n6_ n7_; clear hb hbox hg; obtain ⟨_, _, _, _⟩ := cellsI HI0.out; have p4 : 0 ≤ (s0_1 : Int) := qD; have q4 : s0_1 < (s0_0.size : Int) := qD; have hx4 := bt_at s0_0 s0_1; replace p4 := eq_true p4; replace q4 := eq_true q4) | (go_at_call 102; (with_reducible refine (tok_small.calls (bt s0_0 s0_1) false _ A5.out).mono ?_); rintro e w' ⟨rfl, ⟨nd, rfl⟩⟩; (try exact qW)) | (go_at_call 104; (with_reducible refine (tok_digit.calls (bt s0_0 s0_1) false _ A13.out).mono ?_); rintro e w' ⟨rfl, ⟨nd, rfl⟩⟩; (try exact qW)) | (go_at_call 106; (with_reducible refine (tok_reader_quote.calls k g s0_0 s0_1 t141 t142 t143 t144 t145 t146 t147 w0 _ ?side1 ?side2 A22.out).mono ?_); (case side1 => exact qI); (case side2 => exact qB); rintro e w25 ⟨rfl, hi, hb, hk⟩; replace BK124 := kk gb124 hk NB124_0; replace HI0 := Aside0.mk (hi); replace HK := Aside0.mk (KeepBut.trans (w := w) qH hk (.inl rfl)); replace HB := Aside0.mk (hb); (try clear hb); (try clear hk); (try clear hi); have := NB124_0.out; have := NB0_124.out; obtain ⟨_, _, _, _, _, _, _, _⟩ := cells4 BK124.out))
    repeat (go_quiet (first | ((with_reducible refine gd 2 rfl ?_); refine bx 2 #[.int .i64 0, .string (⟨#[]⟩ : ByteArray), .int .i64 0, .int .i64 0] 32 ?_; intro gb124 hg w23 hbox hb; have n0_ := Aside0.mk (IsS122.below qI hb); have n1_ := Aside0.mk (KeepBut.trans (w := w) qH (KeepBut.of_below hb g none) (.inl rfl)); have n2_ := bst hb; have n3_ := Aside0.mk (hbox); have n4_ := gkS (w := w) hg; have n5_ := Aside0.mk ((Nat.le_trans HW0.out (by rw [hg]; exact (keep_size (w := w) (g := g) (row := none) qH) : w.heap.size ≤ gb124) : w0.heap.size ≤ gb124)); have n6_ := niS hg; have n7_ := niT hg; clear HI0; clear HK; clear HB; have HI0 := n0_; have HK := n1_; have HB := n2_; have BK124 := n3_; have GW124 := n4_; have GE124 := n5_; have NB0_124 := n6_; have NB124_0 := n7_; clear n0_ n1_ n2_ n3_ n4_ n5_ n6_ n7_; clear hb hbox hg; obtain ⟨_, _, _, _⟩ := cellsI HI0.out; have p4 : 0 ≤ (s0_1 : Int) := qD; have q4 : s0_1 < (s0_0.size : Int) := qD; have hx4 := bt_at s0_0 s0_1; replace p4 := eq_true p4; replace q4 := eq_true q4) | (go_at_call 102; (with_reducible refine (tok_small.calls (bt s0_0 s0_1) false _ A5.out).mono ?_); rintro e w' ⟨rfl, ⟨nd, rfl⟩⟩; (try exact qW)) | (go_at_call 104; (with_reducible refine (tok_digit.calls (bt s0_0 s0_1) false _ A13.out).mono ?_); rintro e w' ⟨rfl, ⟨nd, rfl⟩⟩; (try exact qW)) | (go_at_call 106; (with_reducible refine (tok_reader_quote.calls k g s0_0 s0_1 t141 t142 t143 t144 t145 t146 t147 w0 _ ?side1 ?side2 A22.out).mono ?_); (case side1 => exact qI); (case side2 => exact qB); rintro e w25 ⟨rfl, hi, hb, hk⟩; replace BK124 := kk gb124 hk NB124_0; replace HI0 := Aside0.mk (hi); replace HK := Aside0.mk (KeepBut.trans (w := w) qH hk (.inl rfl)); replace HB := Aside0.mk (hb); (try clear hb); (try clear hk); (try clear hi); have := NB124_0.out; have := NB0_124.out; obtain ⟨_, _, _, _, _, _, _, _⟩ := cells4 BK124.out)); try go_wp2_with (first | ((with_reducible refine gd 2 rfl ?_); refine bx 2 #[.int .i64 0, .string (⟨#[]⟩ : ByteArray), .int .i64 0, .int .i64 0] 32 ?_; intro gb124 hg w23 hbox hb; have n0_ := Aside0.mk (IsS122.below qI hb); have n1_ := Aside0.mk (KeepBut.trans (w := w) qH (KeepBut.of_below hb g none) (.inl rfl)); have n2_ := bst hb; have n3_ := Aside0.mk (hbox); have n4_ := gkS (w := w) hg; have n5_ := Aside0.mk ((Nat.le_trans HW0.out (by rw [hg]; exact (keep_size (w := w) (g := g) (row := none) qH) : w.heap.size ≤ gb124) : w0.heap.size ≤ gb124)); have n6_ := niS hg; have n7_ := niT hg; clear HI0; clear HK; clear HB; have HI0 := n0_; have HK := n1_; have HB := n2_; have BK124 := n3_; have GW124 := n4_; have GE124 := n5_; have NB0_124 := n6_; have NB124_0 := n7_; clear n0_ n1_ n2_ n3_ n4_ n5_ n6_ n7_; clear hb hbox hg; obtain ⟨_, _, _, _⟩ := cellsI HI0.out; have p4 : 0 ≤ (s0_1 : Int) := qD; have q4 : s0_1 < (s0_0.size : Int) := qD; have hx4 := bt_at s0_0 s0_1; replace p4 := eq_true p4; replace q4 := eq_true q4) | (go_at_call 102; (with_reducible refine (tok_small.calls (bt s0_0 s0_1) false _ A5.out).mono ?_); rintro e w' ⟨rfl, ⟨nd, rfl⟩⟩; (try exact qW)) | (go_at_call 104; (with_reducible refine (tok_digit.calls (bt s0_0 s0_1) false _ A13.out).mono ?_); rintro e w' ⟨rfl, ⟨nd, rfl⟩⟩; (try exact qW)) | (go_at_call 106; (with_reducible refine (tok_reader_quote.calls k g s0_0 s0_1 t141 t142 t143 t144 t145 t146 t147 w0 _ ?side1 ?side2 A22.out).mono ?_); (case side1 => exact qI); (case side2 => exact qB); rintro e w25 ⟨rfl, hi, hb, hk⟩; replace BK124 := kk gb124 hk NB124_0; replace HI0 := Aside0.mk (hi); replace HK := Aside0.mk (KeepBut.trans (w := w) qH hk (.inl rfl)); replace HB := Aside0.mk (hb); (try clear hb); (try clear hk); (try clear hi); have := NB124_0.out; have := NB0_124.out; obtain ⟨_, _, _, _, _, _, _, _⟩ := cells4 BK124.out)))
    refine rct gb124 32 #[.int .i64 t141, .string t142, .int .i64 t143, .int .i64 t144] Tryd.underlying32 ?_
    exact ⟨qR, qI, qB, qH⟩
   rw [if_neg c21] at H
   have c21b0 := beq_eq_false_iff_ne.mpr c21
   have c21b1 := bne_iff_ne.mpr c21
   replace H := Option.bind_eq_some_iff.mp H
   obtain ⟨⟨t148, t149, t150, t151, t152, t153, t154⟩, A280, H⟩ := H
   (try dsimp -simprocs only at H)
   have A28 := Aside0.mk A280
   clear A280
   simp only [Option.some.injEq, Prod.mk.injEq] at H
   obtain ⟨rfl, rfl, rfl, rfl, rfl, rfl, rfl⟩ := H
   go_enter Tryd.func69, Tryd.ntmps69
   go_wp2_with (first | ((with_reducible refine gd 2 rfl ?_); refine bx 2 #[.int .i64 0, .string (⟨#[]⟩ : ByteArray), .int .i64 0, .int .i64 0] 32 ?_; intro gb124 hg w29 hbox hb; have n0_ := Aside0.mk (IsS122.below qI hb); have n1_ := Aside0.mk (KeepBut.trans (w := w) qH (KeepBut.of_below hb g none) (.inl rfl)); have n2_ := bst hb; have n3_ := Aside0.mk (hbox); have n4_ := gkS (w := w) hg; have n5_ := Aside0.mk ((Nat.le_trans HW0.out (by rw [hg]; exact (keep_size (w := w) (g := g) (row := none) qH) : w.heap.size ≤ gb124) : w0.heap.size ≤ gb124)); have n6_ := niS hg; have n7_ := niT hg; clear HI0; clear HK; clear HB; have HI0 := n0_; have HK := n1_; have HB := n2_; have BK124 := n3_; have GW124 := n4_; have GE124 := n5_; have NB0_124 := n6_; have NB124_0 := n7_; clear n0_ n1_ n2_ n3_ n4_ n5_ n6_ n7_; clear hb hbox hg; obtain ⟨_, _, _, _⟩ := cellsI HI0.out; have p4 : 0 ≤ (s0_1 : Int) := qD; have q4 : s0_1 < (s0_0.size : Int) := qD; have hx4 := bt_at s0_0 s0_1; replace p4 := eq_true p4; replace q4 := eq_true q4) | (go_at_call 102; (with_reducible refine (tok_small.calls (bt s0_0 s0_1) false _ A5.out).mono ?_); rintro e w' ⟨rfl, ⟨nd, rfl⟩⟩; (try exact qW)) | (go_at_call 104; (with_reducible refine (tok_digit.calls (bt s0_0 s0_1) false _ A13.out).mono ?_); rintro e w' ⟨rfl, ⟨nd, rfl⟩⟩; (try exact qW)) | (go_at_call 107; (with_reducible refine (tok_reader_sign.calls g s0_0 s0_1 t148 t149 t150 t151 t152 t153 t154 w0 _ ?side1 ?side2 ?side3 A28.out).mono ?_); (case side1 => exact qI); (case side2 => exact qB); (case side3 => exact HLD.out); rintro e w31 ⟨rfl, hi, hb, hk⟩; replace BK124 := kk gb124 hk NB124_0; replace HI0 := Aside0.mk (hi); replace HK := Aside0.mk (KeepBut.trans (w := w) qH hk (.inl rfl)); replace HB := Aside0.mk (hb); (try clear hb); (try clear hk); (try clear hi); have := NB124_0.out; have := NB0_124.out; obtain ⟨_, _, _, _, _, _, _, _⟩ := cells4 BK124.out))
   repeat (go_quiet (first | ((with_reducible refine gd 2 rfl ?_); refine bx 2 #[.int .i64 0, .string (⟨#[]⟩ : ByteArray), .int .i64 0, .int .i64 0] 32 ?_; intro gb124 hg w29 hbox hb; have n0_ := Aside0.mk (IsS122.below qI hb); have n1_ := Aside0.mk (KeepBut.trans (w := w) qH (KeepBut.of_below hb g none) (.inl rfl)); have n2_ := bst hb; have n3_ := Aside0.mk (hbox); have n4_ := gkS (w := w) hg; have n5_ := Aside0.mk ((Nat.le_trans HW0.out (by rw [hg]; exact (keep_size (w := w) (g := g) (row := none) qH) : w.heap.size ≤ gb124) : w0.heap.size ≤ gb124)); have n6_ := niS hg; have n7_ := niT hg; clear HI0; clear HK; clear HB; have HI0 := n0_; have HK := n1_; have HB := n2_; have BK124 := n3_; have GW124 := n4_; have GE124 := n5_; have NB0_124 := n6_; have NB124_0 := n7_; clear n0_ n1_ n2_ n3_ n4_ n5_ n6_ n7_; clear hb hbox hg; obtain ⟨_, _, _, _⟩ := cellsI HI0.out; have p4 : 0 ≤ (s0_1 : Int) := qD; have q4 : s0_1 < (s0_0.size : Int) := qD; have hx4 := bt_at s0_0 s0_1; replace p4 := eq_true p4; replace q4 := eq_true q4) | (go_at_call 102; (with_reducible refine (tok_small.calls (bt s0_0 s0_1) false _ A5.out).mono ?_); rintro e w' ⟨rfl, ⟨nd, rfl⟩⟩; (try exact qW)) | (go_at_call 104; (with_reducible refine (tok_digit.calls (bt s0_0 s0_1) false _ A13.out).mono ?_); rintro e w' ⟨rfl, ⟨nd, rfl⟩⟩; (try exact qW)) | (go_at_call 107; (with_reducible refine (tok_reader_sign.calls g s0_0 s0_1 t148 t149 t150 t151 t152 t153 t154 w0 _ ?side1 ?side2 ?side3 A28.out).mono ?_); (case side1 => exact qI); (case side2 => exact qB); (case side3 => exact HLD.out); rintro e w31 ⟨rfl, hi, hb, hk⟩; replace BK124 := kk gb124 hk NB124_0; replace HI0 := Aside0.mk (hi); replace HK := Aside0.mk (KeepBut.trans (w := w) qH hk (.inl rfl)); replace HB := Aside0.mk (hb); (try clear hb); (try clear hk); (try clear hi); have := NB124_0.out; have := NB0_124.out; obtain ⟨_, _, _, _, _, _, _, _⟩ := cells4 BK124.out)); try go_wp2_with (first | ((with_reducible refine gd 2 rfl ?_); refine bx 2 #[.int .i64 0, .string (⟨#[]⟩ : ByteArray), .int .i64 0, .int .i64 0] 32 ?_; intro gb124 hg w29 hbox hb; have n0_ := Aside0.mk (IsS122.below qI hb); have n1_ := Aside0.mk (KeepBut.trans (w := w) qH (KeepBut.of_below hb g none) (.inl rfl)); have n2_ := bst hb; have n3_ := Aside0.mk (hbox); have n4_ := gkS (w := w) hg; have n5_ := Aside0.mk ((Nat.le_trans HW0.out (by rw [hg]; exact (keep_size (w := w) (g := g) (row := none) qH) : w.heap.size ≤ gb124) : w0.heap.size ≤ gb124)); have n6_ := niS hg; have n7_ := niT hg; clear HI0; clear HK; clear HB; have HI0 := n0_; have HK := n1_; have HB := n2_; have BK124 := n3_; have GW124 := n4_; have GE124 := n5_; have NB0_124 := n6_; have NB124_0 := n7_; clear n0_ n1_ n2_ n3_ n4_ n5_ n6_ n7_; clear hb hbox hg; obtain ⟨_, _, _, _⟩ := cellsI HI0.out; have p4 : 0 ≤ (s0_1 : Int) := qD; have q4 : s0_1 < (s0_0.size : Int) := qD; have hx4 := bt_at s0_0 s0_1; replace p4 := eq_true p4; replace q4 := eq_true q4) | (go_at_call 102; (with_reducible refine (tok_small.calls (bt s0_0 s0_1) false _ A5.out).mono ?_); rintro e w' ⟨rfl, ⟨nd, rfl⟩⟩; (try exact qW)) | (go_at_call 104; (with_reducible refine (tok_digit.calls (bt s0_0 s0_1) false _ A13.out).mono ?_); rintro e w' ⟨rfl, ⟨nd, rfl⟩⟩; (try exact qW)) | (go_at_call 107; (with_reducible refine (tok_reader_sign.calls g s0_0 s0_1 t148 t149 t150 t151 t152 t153 t154 w0 _ ?side1 ?side2 ?side3 A28.out).mono ?_); (case side1 => exact qI); (case side2 => exact qB); (case side3 => exact HLD.out); rintro e w31 ⟨rfl, hi, hb, hk⟩; replace BK124 := kk gb124 hk NB124_0; replace HI0 := Aside0.mk (hi); replace HK := Aside0.mk (KeepBut.trans (w := w) qH hk (.inl rfl)); replace HB := Aside0.mk (hb); (try clear hb); (try clear hk); (try clear hi); have := NB124_0.out; have := NB0_124.out; obtain ⟨_, _, _, _, _, _, _, _⟩ := cells4 BK124.out)))
   refine rct gb124 32 #[.int .i64 t148, .string t149, .int .i64 t150, .int .i64 t151] Tryd.underlying32 ?_
   exact ⟨qR, qI, qB, qH⟩
  rw [if_neg c3] at H
  exact absurd H (by simp)
 exact absurd H (by simp)
end Go.Proofs.YtbngfhlciebeeaaDoor.L
end
section
namespace Go.Proofs.YtbngfhlciebeeaaDoor.Sp
set_option linter.unusedVariables false
set_option linter.unusedSimpArgs false
open Go.RowKit Go.Proofs.YtbngfhlciebeeaaDoor.L Go.Proofs.YtbngfhlciebeeaaDoorW.PrintWords
theorem small_ev (c : UInt8) : tok_small.f (c.toNat : Int) = some (smallB c) := by
  unfold tok_small.f smallB
  by_cases h : 97 ≤ c.toNat
  · rw [if_pos (by omega), decide_eq_true h, Bool.true_and]
    exact congrArg some (decide_eq_decide.2 (by omega))
  · rw [if_neg (by omega), decide_eq_false h]; rfl
theorem digit_ev (c : UInt8) : tok_digit.f (c.toNat : Int) = some (isDigit c) := by
  unfold tok_digit.f isDigit
  by_cases h : 48 ≤ c.toNat
  · rw [if_pos (by omega), decide_eq_true h, Bool.true_and]
    exact congrArg some (decide_eq_decide.2 (by omega))
  · rw [if_neg (by omega), decide_eq_false h]; rfl
theorem beq_cast (a b : Nat) : ((a : Int) == (b : Int)) = (a == b) := by
  by_cases h : a = b
  · subst h; simp
  · rw [beq_eq_false_iff_ne.2 h, beq_eq_false_iff_ne]; omega
theorem word_1_ev (c : UInt8) : tok_reader_word_1.f (c.toNat : Int) = some (innerB c) := by
  unfold tok_reader_word_1.f innerB
  rw [small_ev, digit_ev]
  simp only [Option.bind_some]
  cases smallB c
  · cases isDigit c
    · simp; exact beq_cast _ 95
    · rfl
  · rfl
theorem quote_1_ev (c : UInt8) : tok_reader_quote_1.f (c.toNat : Int) = some (noQuoteB c) := by
  unfold tok_reader_quote_1.f noQuoteB
  exact congrArg some (by simp only [bne]; rw [show (39 : Int) = ((39 : Nat) : Int) from rfl, beq_cast])
theorem Lex_1_ev (c : UInt8) : tok_Lex_1.f (c.toNat : Int) = some (blankB c) := by
  unfold tok_Lex_1.f blankB
  exact congrArg some (beq_cast _ 32)
theorem while_word_l (s : ByteArray) (hs : s.size ≤ 140737488351232) (a d : Nat) : ∀ j, a ≤ j → j ≤ s.size → s.size - j = d →
    Ev (fun k => tok_reader_while_word.l0 k (a : Int) s (j : Int)) (s.extract a (pend innerB s.data.toList j), s, ((pend innerB s.data.toList j : Nat) : Int)) := by
  have hl := len_size s
  induction d with
  | zero =>
    intro j ha hj hd
    obtain rfl : j = s.size := by omega
    rw [pend_end (by omega)]
    refine Ev.succ ?_
    simp only [tok_reader_while_word.l0]
    exact Ev.neg (by omega) (Ev.pos (by omega) (Ev.pos (by omega) (Ev.pos (by omega) (Ev.some (by simp)))))
  | succ d ih =>
    intro j ha hj hd
    refine Ev.succ ?_
    simp only [tok_reader_while_word.l0]
    refine Ev.pos (by omega) (Ev.pos (by omega) ?_)
    rw [bt_nat s j (by omega)]
    refine Ev.bind_some (word_1_ev _) ?_
    cases hb : innerB (s.data.toList.getD j 0) with
    | true =>
      rw [pend_step (by omega) hb]
      refine Ev.pos rfl ?_
      rw [wrap_at (by omega) (by omega)]
      exact ih (j + 1) (by omega) (by omega) (by omega)
    | false =>
      rw [pend_stop (by omega) hb]
      exact Ev.neg (by decide) (Ev.pos (by omega) (Ev.pos (by omega) (Ev.pos (by omega) (Ev.some (by simp)))))
theorem while_word_ev (s : ByteArray) (hs : s.size ≤ 140737488351232) (i : Nat) (hi : i ≤ s.size) :
    Ev (fun k => tok_reader_while_word.f k s (i : Int)) (s.extract i (pend innerB s.data.toList i), s, ((pend innerB s.data.toList i : Nat) : Int)) := by
  unfold tok_reader_while_word.f
  exact while_word_l s hs i _ i (Nat.le_refl _) hi rfl
theorem while_digit_l (s : ByteArray) (hs : s.size ≤ 140737488351232) (a d : Nat) : ∀ j, a ≤ j → j ≤ s.size → s.size - j = d →
    Ev (fun k => tok_reader_while_digit.l0 k (a : Int) s (j : Int)) (s.extract a (pend isDigit s.data.toList j), s, ((pend isDigit s.data.toList j : Nat) : Int)) := by
  have hl := len_size s
  induction d with
  | zero =>
    intro j ha hj hd
    obtain rfl : j = s.size := by omega
    rw [pend_end (by omega)]
    refine Ev.succ ?_
    simp only [tok_reader_while_digit.l0]
    exact Ev.neg (by omega) (Ev.pos (by omega) (Ev.pos (by omega) (Ev.pos (by omega) (Ev.some (by simp)))))
  | succ d ih =>
    intro j ha hj hd
    refine Ev.succ ?_
    simp only [tok_reader_while_digit.l0]
    refine Ev.pos (by omega) (Ev.pos (by omega) ?_)
    rw [bt_nat s j (by omega)]
    refine Ev.bind_some (digit_ev _) ?_
    cases hb : isDigit (s.data.toList.getD j 0) with
    | true =>
      rw [pend_step (by omega) hb]
      refine Ev.pos rfl ?_
      rw [wrap_at (by omega) (by omega)]
      exact ih (j + 1) (by omega) (by omega) (by omega)
    | false =>
      rw [pend_stop (by omega) hb]
      exact Ev.neg (by decide) (Ev.pos (by omega) (Ev.pos (by omega) (Ev.pos (by omega) (Ev.some (by simp)))))
theorem while_digit_ev (s : ByteArray) (hs : s.size ≤ 140737488351232) (i : Nat) (hi : i ≤ s.size) :
    Ev (fun k => tok_reader_while_digit.f k s (i : Int)) (s.extract i (pend isDigit s.data.toList i), s, ((pend isDigit s.data.toList i : Nat) : Int)) := by
  unfold tok_reader_while_digit.f
  exact while_digit_l s hs i _ i (Nat.le_refl _) hi rfl
theorem while_quote_l (s : ByteArray) (hs : s.size ≤ 140737488351232) (a d : Nat) : ∀ j, a ≤ j → j ≤ s.size → s.size - j = d →
    Ev (fun k => tok_reader_while_quote.l0 k (a : Int) s (j : Int)) (s.extract a (pend noQuoteB s.data.toList j), s, ((pend noQuoteB s.data.toList j : Nat) : Int)) := by
  have hl := len_size s
  induction d with
  | zero =>
    intro j ha hj hd
    obtain rfl : j = s.size := by omega
    rw [pend_end (by omega)]
    refine Ev.succ ?_
    simp only [tok_reader_while_quote.l0]
    exact Ev.neg (by omega) (Ev.pos (by omega) (Ev.pos (by omega) (Ev.pos (by omega) (Ev.some (by simp)))))
  | succ d ih =>
    intro j ha hj hd
    refine Ev.succ ?_
    simp only [tok_reader_while_quote.l0]
    refine Ev.pos (by omega) (Ev.pos (by omega) ?_)
    rw [bt_nat s j (by omega)]
    refine Ev.bind_some (quote_1_ev _) ?_
    cases hb : noQuoteB (s.data.toList.getD j 0) with
    | true =>
      rw [pend_step (by omega) hb]
      refine Ev.pos rfl ?_
      rw [wrap_at (by omega) (by omega)]
      exact ih (j + 1) (by omega) (by omega) (by omega)
    | false =>
      rw [pend_stop (by omega) hb]
      exact Ev.neg (by decide) (Ev.pos (by omega) (Ev.pos (by omega) (Ev.pos (by omega) (Ev.some (by simp)))))
theorem while_quote_ev (s : ByteArray) (hs : s.size ≤ 140737488351232) (i : Nat) (hi : i ≤ s.size) :
    Ev (fun k => tok_reader_while_quote.f k s (i : Int)) (s.extract i (pend noQuoteB s.data.toList i), s, ((pend noQuoteB s.data.toList i : Nat) : Int)) := by
  unfold tok_reader_while_quote.f
  exact while_quote_l s hs i _ i (Nat.le_refl _) hi rfl
theorem while_blank_l (s : ByteArray) (hs : s.size ≤ 140737488351232) (a d : Nat) : ∀ j, a ≤ j → j ≤ s.size → s.size - j = d →
    Ev (fun k => tok_reader_while_blank.l0 k (a : Int) s (j : Int)) (s.extract a (pend blankB s.data.toList j), s, ((pend blankB s.data.toList j : Nat) : Int)) := by
  have hl := len_size s
  induction d with
  | zero =>
    intro j ha hj hd
    obtain rfl : j = s.size := by omega
    rw [pend_end (by omega)]
    refine Ev.succ ?_
    simp only [tok_reader_while_blank.l0]
    exact Ev.neg (by omega) (Ev.pos (by omega) (Ev.pos (by omega) (Ev.pos (by omega) (Ev.some (by simp)))))
  | succ d ih =>
    intro j ha hj hd
    refine Ev.succ ?_
    simp only [tok_reader_while_blank.l0]
    refine Ev.pos (by omega) (Ev.pos (by omega) ?_)
    rw [bt_nat s j (by omega)]
    refine Ev.bind_some (Lex_1_ev _) ?_
    cases hb : blankB (s.data.toList.getD j 0) with
    | true =>
      rw [pend_step (by omega) hb]
      refine Ev.pos rfl ?_
      rw [wrap_at (by omega) (by omega)]
      exact ih (j + 1) (by omega) (by omega) (by omega)
    | false =>
      rw [pend_stop (by omega) hb]
      exact Ev.neg (by decide) (Ev.pos (by omega) (Ev.pos (by omega) (Ev.pos (by omega) (Ev.some (by simp)))))
theorem while_blank_ev (s : ByteArray) (hs : s.size ≤ 140737488351232) (i : Nat) (hi : i ≤ s.size) :
    Ev (fun k => tok_reader_while_blank.f k s (i : Int)) (s.extract i (pend blankB s.data.toList i), s, ((pend blankB s.data.toList i : Nat) : Int)) := by
  unfold tok_reader_while_blank.f
  exact while_blank_l s hs i _ i (Nat.le_refl _) hi rfl
theorem word_ev (s : ByteArray) (hs : s.size ≤ 140737488351232) (i : Nat) (hi : i ≤ s.size) :
    Ev (fun k => tok_reader_word.f k s (i : Int)) (s.extract i (pend innerB s.data.toList i), s, ((pend innerB s.data.toList i : Nat) : Int)) := by
  unfold tok_reader_word.f
  exact Ev.bind (while_word_ev s hs i hi) (Ev.some rfl)
end Go.Proofs.YtbngfhlciebeeaaDoor.Sp
end
section
namespace Go.Proofs.YtbngfhlciebeeaaDoor.L
set_option linter.unusedVariables false
set_option linter.unusedSimpArgs false
open Go.RowKit Go.Proofs.YtbngfhlciebeeaaDoorW.PrintWords Go.Proofs.YtbngfhlciebeeaaDoorW.PrintLast Go.Proofs.YtbngfhlciebeeaaDoorW.PrintMore
def tok_Lex.l0 : Nat → ByteArray → Int → List S32 → Option (List S32 × Int × Int)
  | 0, _, _, _ => none
  | k + 1, s, i, out => (tok_reader_while_blank.f k s i).bind fun b =>
    if b.2.2 = (b.2.1.size : Int) then some (out, 0, 0)
    else if (out.length : Int) = 120 then some ([], 13, b.2.2)
    else (tok_reader_token.f k b.2.1 b.2.2).bind fun t =>
      if t.2.2.2.2.1 = 0 then (if out.length < 3518437208883 then tok_Lex.l0 k t.2.2.2.2.2.1 t.2.2.2.2.2.2 (out ++ [⟨t.1, t.2.1, t.2.2.1, b.2.2⟩]) else none)
      else some ([], t.2.2.2.2.1, b.2.2)
def tok_Lex.f (k : Nat) (a0 : ByteArray) : Option (List S32 × Int × Int) := tok_Lex.l0 k a0 0 []
theorem lexInfo32 : (Tryd.prog.info? 32).map (fun i => (i.zero, i.size, i.bytes)) = some (some (.agg #[(.int .i64 0), (.string ⟨#[]⟩), (.int .i64 0), (.int .i64 0)]), 4, 40) := by kernel_rfl
set_option maxHeartbeats 8000000 in
set_option maxRecDepth 100000 in
theorem tok_Lex.calls (k : Nat) (a0 : ByteArray) (r1 : List (S32)) (r2 : Int) (r3 : Int) (w : World) (hL : Laid w) (h : tok_Lex.f k a0 = some (r1, r2, r3)) :
    Calls Tryd.prog 20 #[.string a0] w fun e w' => ∃ v0_ : Value, e = .returned (.tuple #[v0_, .int .i64 r2, .int .i64 r3]) ∧ Kd.R k32 32 w' w.heap.size (fun _ => True) v0_ r1 ∧ Below w.heap.size w w' := by
  have HLD := Aside0.mk hL
  have H' : Aside0 (tok_Lex.l0 k a0 0 [] = some (r1, r2, r3)) := ⟨h⟩
  clear h hL
  go_enter Tryd.func20, Tryd.ntmps20
  go_wp2
  generalize hg : w.heap.size = g
  have hgl : w.heap.size ≤ g := by omega
  have HI := Aside0.mk (IsS122.new w w a0 0 (Below.refl _ _))
  have HB := Aside0.mk (below_alloc (Below.refl w.heap.size w) (.cells #[.string a0, .int .i64 0] 122))
  rw [hg] at HI
  have HO := Aside0.mk (Kd.R_nil k32 32 (w.alloc (.cells #[.string a0, .int .i64 0] 122)) w.heap.size (fun k_ => k_ ≠ g))
  generalize w.alloc (.cells #[.string a0, .int .i64 0] 122) = w1 at HI HB HO ⊢
  have HG := Aside0.mk hgl
  clear hg hgl
  go_loopg [6] k (fun kq v6 w' => ∃ (s : ByteArray) (i : Int) (xs : List S32), Aside0 (tok_Lex.l0 kq s i xs = some (r1, r2, r3)) ∧ Aside0 (kq ≤ k) ∧ Aside0 (IsS122 w w' g s i) ∧ Aside0 (Below w.heap.size w w') ∧ Aside0 (Kd.R k32 32 w' w.heap.size (fun k_ => k_ ≠ g) v6 xs))
  case atStart => exact ⟨a0, 0, [], H', ⟨Nat.le_refl _⟩, HI, HB, HO⟩
  case round =>
    clear H' HI HB HO
    obtain ⟨s, i, xs, HA, HK1, HI, HB, HO⟩ := hrel
    cases gk with
    | zero => exact absurd HA.out (by simp [tok_Lex.l0])
    | succ k1 =>
      have H := HA.out
      clear HA
      simp only [tok_Lex.l0] at H
      obtain ⟨⟨b1, s1, i1⟩, A1, H⟩ := Option.bind_eq_some_iff.1 H
      have HA1 := Aside0.mk A1
      clear A1
      simp only at H
      go_wp2_with fail
      refine (tok_reader_while_blank.calls k1 g s i b1 s1 i1 w _ HI.out HB.out HA1.out).mono ?_
      rintro e w2 ⟨rfl, hI2, hB2, hK2⟩
      have HO2 := Aside0.mk (Kd.R_keep HO.out hK2 (fun _ h => h))
      have HI2 := Aside0.mk hI2
      have HB2 := Aside0.mk hB2
      obtain ⟨hgb, hgs⟩ := hI2
      have hc0 := cellS122_0 hgb
      have hc1 := cellS122_1 hgb
      have hf0 := blk_frozen hgb 0
      have hf1 := blk_frozen hgb 1
      clear hgb hgs HO HI HB hK2 hB2
      by_cases c1 : i1 = (s1.size : Int)
      · rw [if_pos c1] at H
        have c1b : (i1 == (s1.size : Int)) = true := beq_iff_eq.2 c1
        clear c1
        simp only [Option.some.injEq, Prod.mk.injEq] at H
        obtain ⟨rfl, rfl, rfl⟩ := H
        go_wp2
        go_quiet (fail)
        go_wp2
        go_ret3
        exact ⟨_, rfl, Kd.R_mono (by (with_reducible repeat (first | apply Kd.R_alloc | apply Kd.R_drewN | apply Kd.R_drew)); exact HO2.out) (fun _ _ => trivial), by repeat (first | (with_reducible first | exact HB2.out | apply below_alloc | apply pw_below_drewN | apply below_drew1) | exact HB2.out)⟩
      · rw [if_neg c1] at H
        have c1b : (i1 == (s1.size : Int)) = false := beq_eq_false_iff_ne.2 c1
        clear c1
        obtain ⟨A0, cp, rfl⟩ := Kd.R_slice HO2.out
        by_cases c2 : (xs.length : Int) = 120
        · rw [if_pos c2] at H
          have c2b : ((xs.length : Int) == 120) = true := beq_iff_eq.2 c2
          clear c2
          simp only [Option.some.injEq, Prod.mk.injEq] at H
          obtain ⟨rfl, rfl, rfl⟩ := H
          go_wp2
          go_quiet (fail)
          go_wp2
          go_ret3
          exact ⟨_, rfl, Kd.R_nil _ _ _ _ _, by repeat (first | (with_reducible first | exact HB2.out | apply below_alloc | apply pw_below_drewN | apply below_drew1) | exact HB2.out)⟩
        · rw [if_neg c2] at H
          have c2b : ((xs.length : Int) == 120) = false := beq_eq_false_iff_ne.2 c2
          clear c2
          obtain ⟨⟨t1, t2, t3, t4, te, s2, i2⟩, A2, H⟩ := Option.bind_eq_some_iff.1 H
          have HA2 := Aside0.mk A2
          clear A2
          simp only at H
          go_wp2
          go_quiet (fail)
          go_wp2_with fail
          refine (tok_reader_token.calls k1 g s1 i1 t1 t2 t3 t4 te s2 i2 w _ (HI2.out.drewN _) (pw_below_drewN HB2.out _) HLD.out HA2.out).mono ?_
          rintro e w3 ⟨rfl, hI3, hB3, hK3⟩
          have HO3 := Aside0.mk (Kd.R_keep (by (with_reducible repeat (first | apply Kd.R_alloc | apply Kd.R_drewN | apply Kd.R_drew)); exact HO2.out) hK3 (fun _ h => h))
          have HI3 := Aside0.mk hI3
          have HB3 := Aside0.mk hB3
          clear hI3 hB3 hK3 HO2 HI2 HB2 hc0 hc1 hf0 hf1
          by_cases c3 : te = 0
          · rw [if_pos c3] at H
            have c3b : (te != 0) = false := bne_eq_false_iff_eq.2 c3
            clear c3
            by_cases c4 : xs.length < 3518437208883
            · rw [if_pos c4] at H
              have HA3 := Aside0.mk H
              clear H
              have hgl := IsS122.lt HI3.out
              have hsz := HB3.out.size
              go_wp2_with (first | ((with_reducible refine gate_builtin (b := .append) (xs := #[.tmp 45, .tmp 47]) rfl ?_); at_builtin; refine Kd.R_append k32 (w0 := w) w.heap.size rfl (.tmp 45) (.tmp 47) 23 32 (.agg #[(.int .i64 0), (.string ⟨#[]⟩), (.int .i64 0), (.int .i64 0)]) 40 rfl Tryd.underlying23 lexInfo32 rfl (by decide) (by omega) (.slice A0 xs.length cp) xs (⟨t1, t2, t3, i1⟩ : S32) [.int .i64 t1, .string t2, .int .i64 t3, .int .i64 i1] (fun k_ => k_ ≠ g) (fun _ => False) rfl (by first | (go_simp; done) | (go_simp; rfl)) ?aP (fun _ hk => hk.elim) ?aF ?aO ?aB ?aS ?aL ?_; (case aP => exact k32_mkM _ _ _ (⟨t1, t2, t3, i1⟩ : S32)); (case aB => exact (by repeat (first | (with_reducible first | exact HB3.out | apply below_alloc | apply pw_below_drewN | apply below_drew1) | exact HB3.out))); (case aF => exact (fun k_ hk => by simp at hk; omega)); (case aO => exact (by (with_reducible repeat (first | apply Kd.R_alloc | apply Kd.R_drewN | apply Kd.R_drew)); exact HO3.out)); (case aS => simp; omega); (case aL => omega); intro v4 w4 ho hb hgr hat; have HO4 := Aside0.mk ho; have HB4 := Aside0.mk hb; have HI4 := Aside0.mk (IsS122.grown (by repeat (first | (with_reducible first | exact HI3.out | apply IsS122.alloc | apply IsS122.drewN | apply IsS122.drew) | exact HI3.out)) hgr (fun e => HO3.out.1 g e.symm rfl)); clear ho hb hgr hat HO3 HB3 HI3))
              go_roundg k1
              case rel => exact ⟨s2, i2, _, HA3, ⟨by have := HK1.out; omega⟩, HI4, HB4, HO4⟩
              case measure => omega
            · rw [if_neg c4] at H; cases H
          · rw [if_neg c3] at H
            have c3b : (te != 0) = true := bne_iff_ne.2 c3
            clear c3
            simp only [Option.some.injEq, Prod.mk.injEq] at H
            obtain ⟨rfl, rfl, rfl⟩ := H
            go_wp2
            go_ret3
            exact ⟨_, rfl, Kd.R_nil _ _ _ _ _, by repeat (first | (with_reducible first | exact HB3.out | apply below_alloc | apply pw_below_drewN | apply below_drew1 | refine below_set ?_ HB3.out.size) | exact HB3.out)⟩
end Go.Proofs.YtbngfhlciebeeaaDoor.L
end
