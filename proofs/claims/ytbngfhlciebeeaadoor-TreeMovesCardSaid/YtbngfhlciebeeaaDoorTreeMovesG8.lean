/- Printed and hand-written steps towards the row (TreeMoves), those that it reaches. -/
import Derived.Test.YtbngfhlciebeeaaDoorTreeMovesG4
import Derived.Test.YtbngfhlciebeeaaDoorTreeMovesLxf102
import Derived.Test.YtbngfhlciebeeaaDoorTreeMovesLxf133
import Derived.Test.YtbngfhlciebeeaaDoorTreeMovesG7
section
namespace Go.Proofs.YtbngfhlciebeeaaDoor.L
open Go.RowKit Go.Proofs.YtbngfhlciebeeaaDoorW.PrintWords Go.Proofs.YtbngfhlciebeeaaDoorW.PrintLast Go.Proofs.YtbngfhlciebeeaaDoorW.PrintMore
attribute [local go_sem] max2_int min2_int max_two min_two max_three min_three max_four min_four   -- for this text's walks alone
set_option linter.unusedVariables false
set_option linter.unusedSimpArgs false
def tok_reader_token.f (k : Nat) (s0_0 : ByteArray) (s0_1 : Int) : Option (Int × ByteArray × Int × Int × Int × ByteArray × Int) := if 0 ≤ s0_1 then (if s0_1 < (s0_0.size : Int) then ((tok_small.f (bt s0_0 s0_1)).bind fun t125 => (if t125 = true then ((tok_reader_path.f k s0_0 s0_1).bind fun bt126 => (some (bt126.1, bt126.2.1, bt126.2.2.1, bt126.2.2.2.1, bt126.2.2.2.2.1, bt126.2.2.2.2.2.1, bt126.2.2.2.2.2.2))) else ((tok_digit.f (bt s0_0 s0_1)).bind fun t133 => (if t133 = true then ((tok_reader_number.f k s0_0 s0_1).bind fun bt134 => (some (bt134.1, bt134.2.1, bt134.2.2.1, bt134.2.2.2.1, bt134.2.2.2.2.1, bt134.2.2.2.2.2.1, bt134.2.2.2.2.2.2))) else (if (bt s0_0 s0_1) = 39 then ((tok_reader_quote.f k s0_0 s0_1).bind fun bt141 => (some (bt141.1, bt141.2.1, bt141.2.2.1, bt141.2.2.2.1, bt141.2.2.2.2.1, bt141.2.2.2.2.2.1, bt141.2.2.2.2.2.2))) else ((tok_reader_sign.f s0_0 s0_1).bind fun bt148 => (some (bt148.1, bt148.2.1, bt148.2.2.1, bt148.2.2.2.1, bt148.2.2.2.2.1, bt148.2.2.2.2.2.1, bt148.2.2.2.2.2.2)))))))) else (none)) else (none)
set_option maxHeartbeats 8000000 in
set_option maxRecDepth 100000 in
theorem tok_reader_token.calls (k : Nat) (g : Nat) (s0_0 : ByteArray) (s0_1 : Int) (r1 : Int) (r2 : ByteArray) (r3 : Int) (r4 : Int) (r5 : Int) (r6 : ByteArray) (r7 : Int) (w0 w : World) (hI : IsS122 w0 w g s0_0 s0_1) (hB : Below w0.heap.size w0 w) (hL : Laid w0) (h : tok_reader_token.f k s0_0 s0_1 = some (r1, r2, r3, r4, r5, r6, r7)) :
  Calls Tryd.prog 69 #[.pointer (some ⟨g, 0, none⟩)] w fun e w' => e = .returned (.tuple #[.agg #[.int .i64 r1, .string r2, .int .i64 r3, .int .i64 r4], .int .i64 r5]) ∧ IsS122 w0 w' g r6 r7 ∧ Below w0.heap.size w0 w' ∧ KeepBut w w' g none := by
 have hu32 := Tryd.underlying32
 have HI0 := Aside0.mk hI
 have HK := Aside0.mk (KeepBut.refl w g none)
 have HL := Aside0.mk hB.size
 clear hI
 have HW0 := Aside0.mk hB.size
 have HB := Aside0.mk hB
 clear hB
 have HLD := Aside0.mk hL
 clear hL
 have H : (if 0 ≤ s0_1 then (if s0_1 < (s0_0.size : Int) then ((tok_small.f (bt s0_0 s0_1)).bind fun t125 => (if t125 = true then ((tok_reader_path.f k s0_0 s0_1).bind fun bt126 => (some (bt126.1, bt126.2.1, bt126.2.2.1, bt126.2.2.2.1, bt126.2.2.2.2.1, bt126.2.2.2.2.2.1, bt126.2.2.2.2.2.2))) else ((tok_digit.f (bt s0_0 s0_1)).bind fun t133 => (if t133 = true then ((tok_reader_number.f k s0_0 s0_1).bind fun bt134 => (some (bt134.1, bt134.2.1, bt134.2.2.1, bt134.2.2.2.1, bt134.2.2.2.2.1, bt134.2.2.2.2.2.1, bt134.2.2.2.2.2.2))) else (if (bt s0_0 s0_1) = 39 then ((tok_reader_quote.f k s0_0 s0_1).bind fun bt141 => (some (bt141.1, bt141.2.1, bt141.2.2.1, bt141.2.2.2.1, bt141.2.2.2.2.1, bt141.2.2.2.2.2.1, bt141.2.2.2.2.2.2))) else ((tok_reader_sign.f s0_0 s0_1).bind fun bt148 => (some (bt148.1, bt148.2.1, bt148.2.2.1, bt148.2.2.2.1, bt148.2.2.2.2.1, bt148.2.2.2.2.2.1, bt148.2.2.2.2.2.2)))))))) else (none)) else (none)) = some (r1, r2, r3, r4, r5, r6, r7) := h
 clear h
 by_cases c2 : 0 ≤ s0_1
 ·rw [if_pos c2] at H
  have c2b0 := decide_eq_true c2
  clear c2
  by_cases c3 : s0_1 < (s0_0.size : Int)
  ·rw [if_pos c3] at H
   have c3b0 := decide_eq_true c3
   clear c3
   replace H := Option.bind_eq_some_iff.mp H
   obtain ⟨t125, A50, H⟩ := H
   (try dsimp -simprocs only at H)
   have A5 := Aside0.mk A50
   clear A50
   by_cases c6 : t125 = true
   ·subst c6
    rw [if_pos rfl] at H
    replace H := Option.bind_eq_some_iff.mp H
    obtain ⟨⟨t126, t127, t128, t129, t130, t131, t132⟩, A70, H⟩ := H
    (try dsimp -simprocs only at H)
    have A7 := Aside0.mk A70
    clear A70
    simp only [Option.some.injEq, Prod.mk.injEq] at H
    obtain ⟨rfl, rfl, rfl, rfl, rfl, rfl, rfl⟩ := H
    go_enter Tryd.func69, Tryd.ntmps69
    go_wp2_with (first | (refine bx 2 #[.int .i64 0, .string (⟨#[]⟩ : ByteArray), .int .i64 0, .int .i64 0] 32 ?_; intro gb124 hg w8 hbox hb; have n0_ := Aside0.mk (IsS122.below qI hb); have n1_ := Aside0.mk (KeepBut.trans (w := w) qH (KeepBut.of_below hb g none) (.inl rfl)); have n2_ := bst hb; have n3_ := Aside0.mk (hbox); have n4_ := gkS (w := w) hg; have n5_ := Aside0.mk ((Nat.le_trans HW0.out (by rw [hg]; exact (keep_size (w := w) (g := g) (row := none) qH) : w.heap.size ≤ gb124) : w0.heap.size ≤ gb124)); have n6_ := niS hg; have n7_ := niT hg; clear HI0; clear HK; clear HB; have HI0 := n0_; have HK := n1_; have HB := n2_; have BK124 := n3_; have GW124 := n4_; have GE124 := n5_; have NB0_124 := n6_; have NB124_0 := n7_; clear n0_ n1_ n2_ n3_ n4_ n5_ n6_ n7_; clear hb hbox hg; obtain ⟨HGz9, hgz9⟩ := HI0.out; have hcz9_0 := cellS122_0 HGz9; have hcz9_1 := cellS122_1 HGz9; have hfz9_0 := blk_frozen HGz9 0; have hfz9_1 := blk_frozen HGz9 1; clear HGz9 hgz9; have p4 : 0 ≤ (s0_1 : Int) := qD; have q4 : s0_1 < (s0_0.size : Int) := qD; have hx4 := bt_at s0_0 s0_1; replace p4 := eq_true p4; replace q4 := eq_true q4) | (go_at_call 102; (with_reducible refine (tok_small.calls (bt s0_0 s0_1) true _ A5.out).mono ?_); rintro e w' ⟨rfl, ⟨nd, rfl⟩⟩; (try exact qW)) | (go_at_call 103; (with_reducible refine (tok_reader_path.calls k g s0_0 s0_1 t126 t127 t128 t129 t130 t131 t132 w0 _ ?side1 ?side2 A7.out).mono ?_); (case side1 => repeat (first | (with_reducible first | exact HI0.out | apply IsS122.alloc | apply IsS122.drewN | apply IsS122.drew | apply IsS122.set_0 | apply IsS122.set_1 | refine IsS122.far ?_ NB0_124.out _) | exact HI0.out)); (case side2 => repeat (first | (with_reducible first | exact HB.out | apply below_alloc | apply pw_below_drewN | apply below_drew1 | refine below_set ?_ (IsS122.ge HI0.out) | refine below_set ?_ GE124.out) | exact HB.out)); rintro e w10 ⟨rfl, hi, hb, hk⟩; replace BK124 := Aside0.mk (KeepBut.blk hk (g' := gb124) (o := .cells #[.int .i64 0, .string (⟨#[]⟩ : ByteArray), .int .i64 0, .int .i64 0] 32 (0, 0)) qK NB124_0.out (by simp)); replace HI0 := Aside0.mk (hi); replace HK := Aside0.mk (KeepBut.trans (w := w) qH hk (.inl rfl)); replace HB := Aside0.mk (hb); (try clear hb); (try clear hk); (try clear hi); have hnb11 := NB124_0.out; have hnc11 := NB0_124.out; obtain ⟨hcz12_0, hcz12_1, hcz12_2, hcz12_3, hfz12_0, hfz12_1, hfz12_2, hfz12_3⟩ := cells4 BK124.out))
    repeat (go_quiet (first | (refine bx 2 #[.int .i64 0, .string (⟨#[]⟩ : ByteArray), .int .i64 0, .int .i64 0] 32 ?_; intro gb124 hg w8 hbox hb; have n0_ := Aside0.mk (IsS122.below qI hb); have n1_ := Aside0.mk (KeepBut.trans (w := w) qH (KeepBut.of_below hb g none) (.inl rfl)); have n2_ := bst hb; have n3_ := Aside0.mk (hbox); have n4_ := gkS (w := w) hg; have n5_ := Aside0.mk ((Nat.le_trans HW0.out (by rw [hg]; exact (keep_size (w := w) (g := g) (row := none) qH) : w.heap.size ≤ gb124) : w0.heap.size ≤ gb124)); have n6_ := niS hg; have n7_ := niT hg; clear HI0; clear HK; clear HB; have HI0 := n0_; have HK := n1_; have HB := n2_; have BK124 := n3_; have GW124 := n4_; have GE124 := n5_; have NB0_124 := n6_; have NB124_0 := n7_; clear n0_ n1_ n2_ n3_ n4_ n5_ n6_ n7_; clear hb hbox hg; obtain ⟨HGz9, hgz9⟩ := HI0.out; have hcz9_0 := cellS122_0 HGz9; have hcz9_1 := cellS122_1 HGz9; have hfz9_0 := blk_frozen HGz9 0; have hfz9_1 := blk_frozen HGz9 1; clear HGz9 hgz9; have p4 : 0 ≤ (s0_1 : Int) := qD; have q4 : s0_1 < (s0_0.size : Int) := qD; have hx4 := bt_at s0_0 s0_1; replace p4 := eq_true p4; replace q4 := eq_true q4) | (go_at_call 102; (with_reducible refine (tok_small.calls (bt s0_0 s0_1) true _ A5.out).mono ?_); rintro e w' ⟨rfl, ⟨nd, rfl⟩⟩; (try exact qW)) | (go_at_call 103; (with_reducible refine (tok_reader_path.calls k g s0_0 s0_1 t126 t127 t128 t129 t130 t131 t132 w0 _ ?side1 ?side2 A7.out).mono ?_); (case side1 => repeat (first | (with_reducible first | exact HI0.out | apply IsS122.alloc | apply IsS122.drewN | apply IsS122.drew | apply IsS122.set_0 | apply IsS122.set_1 | refine IsS122.far ?_ NB0_124.out _) | exact HI0.out)); (case side2 => repeat (first | (with_reducible first | exact HB.out | apply below_alloc | apply pw_below_drewN | apply below_drew1 | refine below_set ?_ (IsS122.ge HI0.out) | refine below_set ?_ GE124.out) | exact HB.out)); rintro e w10 ⟨rfl, hi, hb, hk⟩; replace BK124 := Aside0.mk (KeepBut.blk hk (g' := gb124) (o := .cells #[.int .i64 0, .string (⟨#[]⟩ : ByteArray), .int .i64 0, .int .i64 0] 32 (0, 0)) qK NB124_0.out (by simp)); replace HI0 := Aside0.mk (hi); replace HK := Aside0.mk (KeepBut.trans (w := w) qH hk (.inl rfl)); replace HB := Aside0.mk (hb); (try clear hb); (try clear hk); (try clear hi); have hnb11 := NB124_0.out; have hnc11 := NB0_124.out; obtain ⟨hcz12_0, hcz12_1, hcz12_2, hcz12_3, hfz12_0, hfz12_1, hfz12_2, hfz12_3⟩ := cells4 BK124.out)); try go_wp2_with (first | (refine bx 2 #[.int .i64 0, .string (⟨#[]⟩ : ByteArray), .int .i64 0, .int .i64 0] 32 ?_; intro gb124 hg w8 hbox hb; have n0_ := Aside0.mk (IsS122.below qI hb); have n1_ := Aside0.mk (KeepBut.trans (w := w) qH (KeepBut.of_below hb g none) (.inl rfl)); have n2_ := bst hb; have n3_ := Aside0.mk (hbox); have n4_ := gkS (w := w) hg; have n5_ := Aside0.mk ((Nat.le_trans HW0.out (by rw [hg]; exact (keep_size (w := w) (g := g) (row := none) qH) : w.heap.size ≤ gb124) : w0.heap.size ≤ gb124)); have n6_ := niS hg; have n7_ := niT hg; clear HI0; clear HK; clear HB; have HI0 := n0_; have HK := n1_; have HB := n2_; have BK124 := n3_; have GW124 := n4_; have GE124 := n5_; have NB0_124 := n6_; have NB124_0 := n7_; clear n0_ n1_ n2_ n3_ n4_ n5_ n6_ n7_; clear hb hbox hg; obtain ⟨HGz9, hgz9⟩ := HI0.out; have hcz9_0 := cellS122_0 HGz9; have hcz9_1 := cellS122_1 HGz9; have hfz9_0 := blk_frozen HGz9 0; have hfz9_1 := blk_frozen HGz9 1; clear HGz9 hgz9; have p4 : 0 ≤ (s0_1 : Int) := qD; have q4 : s0_1 < (s0_0.size : Int) := qD; have hx4 := bt_at s0_0 s0_1; replace p4 := eq_true p4; replace q4 := eq_true q4) | (go_at_call 102; (with_reducible refine (tok_small.calls (bt s0_0 s0_1) true _ A5.out).mono ?_); rintro e w' ⟨rfl, ⟨nd, rfl⟩⟩; (try exact qW)) | (go_at_call 103; (with_reducible refine (tok_reader_path.calls k g s0_0 s0_1 t126 t127 t128 t129 t130 t131 t132 w0 _ ?side1 ?side2 A7.out).mono ?_); (case side1 => repeat (first | (with_reducible first | exact HI0.out | apply IsS122.alloc | apply IsS122.drewN | apply IsS122.drew | apply IsS122.set_0 | apply IsS122.set_1 | refine IsS122.far ?_ NB0_124.out _) | exact HI0.out)); (case side2 => repeat (first | (with_reducible first | exact HB.out | apply below_alloc | apply pw_below_drewN | apply below_drew1 | refine below_set ?_ (IsS122.ge HI0.out) | refine below_set ?_ GE124.out) | exact HB.out)); rintro e w10 ⟨rfl, hi, hb, hk⟩; replace BK124 := Aside0.mk (KeepBut.blk hk (g' := gb124) (o := .cells #[.int .i64 0, .string (⟨#[]⟩ : ByteArray), .int .i64 0, .int .i64 0] 32 (0, 0)) qK NB124_0.out (by simp)); replace HI0 := Aside0.mk (hi); replace HK := Aside0.mk (KeepBut.trans (w := w) qH hk (.inl rfl)); replace HB := Aside0.mk (hb); (try clear hb); (try clear hk); (try clear hi); have hnb11 := NB124_0.out; have hnc11 := NB0_124.out; obtain ⟨hcz12_0, hcz12_1, hcz12_2, hcz12_3, hfz12_0, hfz12_1, hfz12_2, hfz12_3⟩ := cells4 BK124.out)))
    refine bodyPost_ret (results_ct rfl _ _ gb124 32 #[.int .i64 t126, .string t127, .int .i64 t128, .int .i64 t129] (0, 0) _ rfl qP Tryd.underlying32 rfl (by kernel_rfl)) rfl ?_
    exact ⟨qR, qI, qB, qH⟩
   ·replace c6 := Bool.eq_false_iff.mpr c6
    subst c6
    rw [if_neg (show ¬ (false = true) by decide)] at H
    replace H := Option.bind_eq_some_iff.mp H
    obtain ⟨t133, A130, H⟩ := H
    (try dsimp -simprocs only at H)
    have A13 := Aside0.mk A130
    clear A130
    by_cases c14 : t133 = true
    ·subst c14
     rw [if_pos rfl] at H
     replace H := Option.bind_eq_some_iff.mp H
     obtain ⟨⟨t134, t135, t136, t137, t138, t139, t140⟩, A150, H⟩ := H
     (try dsimp -simprocs only at H)
     have A15 := Aside0.mk A150
     clear A150
     simp only [Option.some.injEq, Prod.mk.injEq] at H
     obtain ⟨rfl, rfl, rfl, rfl, rfl, rfl, rfl⟩ := H
     go_enter Tryd.func69, Tryd.ntmps69
     go_wp2_with (first | (refine bx 2 #[.int .i64 0, .string (⟨#[]⟩ : ByteArray), .int .i64 0, .int .i64 0] 32 ?_; intro gb124 hg w16 hbox hb; have n0_ := Aside0.mk (IsS122.below qI hb); have n1_ := Aside0.mk (KeepBut.trans (w := w) qH (KeepBut.of_below hb g none) (.inl rfl)); have n2_ := bst hb; have n3_ := Aside0.mk (hbox); have n4_ := gkS (w := w) hg; have n5_ := Aside0.mk ((Nat.le_trans HW0.out (by rw [hg]; exact (keep_size (w := w) (g := g) (row := none) qH) : w.heap.size ≤ gb124) : w0.heap.size ≤ gb124)); have n6_ := niS hg; have n7_ := niT hg; clear HI0; clear HK; clear HB; have HI0 := n0_; have HK := n1_; have HB := n2_; have BK124 := n3_; have GW124 := n4_; have GE124 := n5_; have NB0_124 := n6_; have NB124_0 := n7_; clear n0_ n1_ n2_ n3_ n4_ n5_ n6_ n7_; clear hb hbox hg; obtain ⟨HGz17, hgz17⟩ := HI0.out; have hcz17_0 := cellS122_0 HGz17; have hcz17_1 := cellS122_1 HGz17; have hfz17_0 := blk_frozen HGz17 0; have hfz17_1 := blk_frozen HGz17 1; clear HGz17 hgz17; have p4 : 0 ≤ (s0_1 : Int) := qD; have q4 : s0_1 < (s0_0.size : Int) := qD; have hx4 := bt_at s0_0 s0_1; replace p4 := eq_true p4; replace q4 := eq_true q4) | (go_at_call 102; (with_reducible refine (tok_small.calls (bt s0_0 s0_1) false _ A5.out).mono ?_); rintro e w' ⟨rfl, ⟨nd, rfl⟩⟩; (try exact qW)) | (go_at_call 104; (with_reducible refine (tok_digit.calls (bt s0_0 s0_1) true _ A13.out).mono ?_); rintro e w' ⟨rfl, ⟨nd, rfl⟩⟩; (try exact qW)) | (go_at_call 105; (with_reducible refine (tok_reader_number.calls k g s0_0 s0_1 t134 t135 t136 t137 t138 t139 t140 w0 _ ?side1 ?side2 A15.out).mono ?_); (case side1 => repeat (first | (with_reducible first | exact HI0.out | apply IsS122.alloc | apply IsS122.drewN | apply IsS122.drew | apply IsS122.set_0 | apply IsS122.set_1 | refine IsS122.far ?_ NB0_124.out _) | exact HI0.out)); (case side2 => repeat (first | (with_reducible first | exact HB.out | apply below_alloc | apply pw_below_drewN | apply below_drew1 | refine below_set ?_ (IsS122.ge HI0.out) | refine below_set ?_ GE124.out) | exact HB.out)); rintro e w18 ⟨rfl, hi, hb, hk⟩; replace BK124 := Aside0.mk (KeepBut.blk hk (g' := gb124) (o := .cells #[.int .i64 0, .string (⟨#[]⟩ : ByteArray), .int .i64 0, .int .i64 0] 32 (0, 0)) qK NB124_0.out (by simp)); replace HI0 := Aside0.mk (hi); replace HK := Aside0.mk (KeepBut.trans (w := w) qH hk (.inl rfl)); replace HB := Aside0.mk (hb); (try clear hb); (try clear hk); (try clear hi); have hnb19 := NB124_0.out; have hnc19 := NB0_124.out; obtain ⟨hcz20_0, hcz20_1, hcz20_2, hcz20_3, hfz20_0, hfz20_1, hfz20_2, hfz20_3⟩ := cells4 BK124.out))
     repeat (go_quiet (first | (refine bx 2 #[.int .i64 0, .string (⟨#[]⟩ : ByteArray), .int .i64 0, .int .i64 0] 32 ?_; intro gb124 hg w16 hbox hb; have n0_ := Aside0.mk (IsS122.below qI hb); have n1_ := Aside0.mk (KeepBut.trans (w := w) qH (KeepBut.of_below hb g none) (.inl rfl)); have n2_ := bst hb; have n3_ := Aside0.mk (hbox); have n4_ := gkS (w := w) hg; have n5_ := Aside0.mk ((Nat.le_trans HW0.out (by rw [hg]; exact (keep_size (w := w) (g := g) (row := none) qH) : w.heap.size ≤ gb124) : w0.heap.size ≤ gb124)); have n6_ := niS hg; have n7_ := niT hg; clear HI0; clear HK; clear HB; have HI0 := n0_; have HK := n1_; have HB := n2_; have BK124 := n3_; have GW124 := n4_; have GE124 := n5_; have NB0_124 := n6_; have NB124_0 := n7_; clear n0_ n1_ n2_ n3_ n4_ n5_ n6_ n7_; clear hb hbox hg; obtain ⟨HGz17, hgz17⟩ := HI0.out; have hcz17_0 := cellS122_0 HGz17; have hcz17_1 := cellS122_1 HGz17; have hfz17_0 := blk_frozen HGz17 0; have hfz17_1 := blk_frozen HGz17 1; clear HGz17 hgz17; have p4 : 0 ≤ (s0_1 : Int) := qD; have q4 : s0_1 < (s0_0.size : Int) := qD; have hx4 := bt_at s0_0 s0_1; replace p4 := eq_true p4; replace q4 := eq_true q4) | (go_at_call 102; (with_reducible refine (tok_small.calls (bt s0_0 s0_1) false _ A5.out).mono ?_); rintro e w' ⟨rfl, ⟨nd, rfl⟩⟩; (try exact qW)) | (go_at_call 104; (with_reducible refine (tok_digit.calls (bt s0_0 s0_1) true _ A13.out).mono ?_); rintro e w' ⟨rfl, ⟨nd, rfl⟩⟩; (try exact qW)) | (go_at_call 105; (with_reducible refine (tok_reader_number.calls k g s0_0 s0_1 t134 t135 t136 t137 t138 t139 t140 w0 _ ?side1 ?side2 A15.out).mono ?_); (case side1 => repeat (first | (with_reducible first | exact HI0.out | apply IsS122.alloc | apply IsS122.drewN | apply IsS122.drew | apply IsS122.set_0 | apply IsS122.set_1 | refine IsS122.far ?_ NB0_124.out _) | exact HI0.out)); (case side2 => repeat (first | (with_reducible first | exact HB.out | apply below_alloc | apply pw_below_drewN | apply below_drew1 | refine below_set ?_ (IsS122.ge HI0.out) | refine below_set ?_ GE124.out) | exact HB.out)); rintro e w18 ⟨rfl, hi, hb, hk⟩; replace BK124 := Aside0.mk (KeepBut.blk hk (g' := gb124) (o := .cells #[.int .i64 0, .string (⟨#[]⟩ : ByteArray), .int .i64 0, .int .i64 0] 32 (0, 0)) qK NB124_0.out (by simp)); replace HI0 := Aside0.mk (hi); replace HK := Aside0.mk (KeepBut.trans (w := w) qH hk (.inl rfl)); replace HB := Aside0.mk (hb); (try clear hb); (try clear hk); (try clear hi); have hnb19 := NB124_0.out; have hnc19 := NB0_124.out; obtain ⟨hcz20_0, hcz20_1, hcz20_2, hcz20_3, hfz20_0, hfz20_1, hfz20_2, hfz20_3⟩ := cells4 BK124.out)); try go_wp2_with (first | (refine bx 2 #[.int .i64 0, .string (⟨#[]⟩ : ByteArray), .int .i64 0, .int .i64 0] 32 ?_; intro gb124 hg w16 hbox hb; have n0_ := Aside0.mk (IsS122.below qI hb); have n1_ := Aside0.mk (KeepBut.trans (w := w) qH (KeepBut.of_below hb g none) (.inl rfl)); have n2_ := bst hb; have n3_ := Aside0.mk (hbox); have n4_ := gkS (w := w) hg; have n5_ := Aside0.mk ((Nat.le_trans HW0.out (by rw [hg]; exact (keep_size (w := w) (g := g) (row := none) qH) : w.heap.size ≤ gb124) : w0.heap.size ≤ gb124)); have n6_ := niS hg; have n7_ := niT hg; clear HI0; clear HK; clear HB; have HI0 := n0_; have HK := n1_; have HB := n2_; have BK124 := n3_; have GW124 := n4_; have GE124 := n5_; have NB0_124 := n6_; have NB124_0 := n7_; clear n0_ n1_ n2_ n3_ n4_ n5_ n6_ n7_; clear hb hbox hg; obtain ⟨HGz17, hgz17⟩ := HI0.out; have hcz17_0 := cellS122_0 HGz17; have hcz17_1 := cellS122_1 HGz17; have hfz17_0 := blk_frozen HGz17 0; have hfz17_1 := blk_frozen HGz17 1; clear HGz17 hgz17; have p4 : 0 ≤ (s0_1 : Int) := qD; have q4 : s0_1 < (s0_0.size : Int) := qD; have hx4 := bt_at s0_0 s0_1; replace p4 := eq_true p4; replace q4 := eq_true q4) | (go_at_call 102; (with_reducible refine (tok_small.calls (bt s0_0 s0_1) false _ A5.out).mono ?_); rintro e w' ⟨rfl, ⟨nd, rfl⟩⟩; (try exact qW)) | (go_at_call 104; (with_reducible refine (tok_digit.calls (bt s0_0 s0_1) true _ A13.out).mono ?_); rintro e w' ⟨rfl, ⟨nd, rfl⟩⟩; (try exact qW)) | (go_at_call 105; (with_reducible refine (tok_reader_number.calls k g s0_0 s0_1 t134 t135 t136 t137 t138 t139 t140 w0 _ ?side1 ?side2 A15.out).mono ?_); (case side1 => repeat (first | (with_reducible first | exact HI0.out | apply IsS122.alloc | apply IsS122.drewN | apply IsS122.drew | apply IsS122.set_0 | apply IsS122.set_1 | refine IsS122.far ?_ NB0_124.out _) | exact HI0.out)); (case side2 => repeat (first | (with_reducible first | exact HB.out | apply below_alloc | apply pw_below_drewN | apply below_drew1 | refine below_set ?_ (IsS122.ge HI0.out) | refine below_set ?_ GE124.out) | exact HB.out)); rintro e w18 ⟨rfl, hi, hb, hk⟩; replace BK124 := Aside0.mk (KeepBut.blk hk (g' := gb124) (o := .cells #[.int .i64 0, .string (⟨#[]⟩ : ByteArray), .int .i64 0, .int .i64 0] 32 (0, 0)) qK NB124_0.out (by simp)); replace HI0 := Aside0.mk (hi); replace HK := Aside0.mk (KeepBut.trans (w := w) qH hk (.inl rfl)); replace HB := Aside0.mk (hb); (try clear hb); (try clear hk); (try clear hi); have hnb19 := NB124_0.out; have hnc19 := NB0_124.out; obtain ⟨hcz20_0, hcz20_1, hcz20_2, hcz20_3, hfz20_0, hfz20_1, hfz20_2, hfz20_3⟩ := cells4 BK124.out)))
     refine bodyPost_ret (results_ct rfl _ _ gb124 32 #[.int .i64 t134, .string t135, .int .i64 t136, .int .i64 t137] (0, 0) _ rfl qP Tryd.underlying32 rfl (by kernel_rfl)) rfl ?_
     exact ⟨qR, qI, qB, qH⟩
    ·replace c14 := Bool.eq_false_iff.mpr c14
     subst c14
     rw [if_neg (show ¬ (false = true) by decide)] at H
     by_cases c21 : (bt s0_0 s0_1) = 39
     ·rw [if_pos c21] at H
      have c21b0 := beq_iff_eq.mpr c21
      have c21b1 := bne_eq_false_iff_eq.mpr c21
      clear c21
      replace H := Option.bind_eq_some_iff.mp H
      obtain ⟨⟨t141, t142, t143, t144, t145, t146, t147⟩, A220, H⟩ := H
      (try dsimp -simprocs only at H)
      have A22 := Aside0.mk A220
      clear A220
      simp only [Option.some.injEq, Prod.mk.injEq] at H
      obtain ⟨rfl, rfl, rfl, rfl, rfl, rfl, rfl⟩ := H
      go_enter Tryd.func69, Tryd.ntmps69
      go_wp2_with (first | (refine bx 2 #[.int .i64 0, .string (⟨#[]⟩ : ByteArray), .int .i64 0, .int .i64 0] 32 ?_; intro gb124 hg w23 hbox hb; have n0_ := Aside0.mk (IsS122.below qI hb); have n1_ := Aside0.mk (KeepBut.trans (w := w) qH (KeepBut.of_below hb g none) (.inl rfl)); have n2_ := bst hb; have n3_ := Aside0.mk (hbox); have n4_ := gkS (w := w) hg; have n5_ := Aside0.mk ((Nat.le_trans HW0.out (by rw [hg]; exact (keep_size (w := w) (g := g) (row := none) qH) : w.heap.size ≤ gb124) : w0.heap.size ≤ gb124)); have n6_ := niS hg; have n7_ := niT hg; clear HI0; clear HK; clear HB; have HI0 := n0_; have HK := n1_; have HB := n2_; have BK124 := n3_; have GW124 := n4_; have GE124 := n5_; have NB0_124 := n6_; have NB124_0 := n7_; clear n0_ n1_ n2_ n3_ n4_ n5_ n6_ n7_; clear hb hbox hg; obtain ⟨HGz24, hgz24⟩ := HI0.out; have hcz24_0 := cellS122_0 HGz24; have hcz24_1 := cellS122_1 HGz24; have hfz24_0 := blk_frozen HGz24 0; have hfz24_1 := blk_frozen HGz24 1; clear HGz24 hgz24; have p4 : 0 ≤ (s0_1 : Int) := qD; have q4 : s0_1 < (s0_0.size : Int) := qD; have hx4 := bt_at s0_0 s0_1; replace p4 := eq_true p4; replace q4 := eq_true q4) | (go_at_call 102; (with_reducible refine (tok_small.calls (bt s0_0 s0_1) false _ A5.out).mono ?_); rintro e w' ⟨rfl, ⟨nd, rfl⟩⟩; (try exact qW)) | (go_at_call 104; (with_reducible refine (tok_digit.calls (bt s0_0 s0_1) false _ A13.out).mono ?_); rintro e w' ⟨rfl, ⟨nd, rfl⟩⟩; (try exact qW)) | (go_at_call 106; (with_reducible refine (tok_reader_quote.calls k g s0_0 s0_1 t141 t142 t143 t144 t145 t146 t147 w0 _ ?side1 ?side2 A22.out).mono ?_); (case side1 => repeat (first | (with_reducible first | exact HI0.out | apply IsS122.alloc | apply IsS122.drewN | apply IsS122.drew | apply IsS122.set_0 | apply IsS122.set_1 | refine IsS122.far ?_ NB0_124.out _) | exact HI0.out)); (case side2 => repeat (first | (with_reducible first | exact HB.out | apply below_alloc | apply pw_below_drewN | apply below_drew1 | refine below_set ?_ (IsS122.ge HI0.out) | refine below_set ?_ GE124.out) | exact HB.out)); rintro e w25 ⟨rfl, hi, hb, hk⟩; replace BK124 := Aside0.mk (KeepBut.blk hk (g' := gb124) (o := .cells #[.int .i64 0, .string (⟨#[]⟩ : ByteArray), .int .i64 0, .int .i64 0] 32 (0, 0)) qK NB124_0.out (by simp)); replace HI0 := Aside0.mk (hi); replace HK := Aside0.mk (KeepBut.trans (w := w) qH hk (.inl rfl)); replace HB := Aside0.mk (hb); (try clear hb); (try clear hk); (try clear hi); have hnb26 := NB124_0.out; have hnc26 := NB0_124.out; obtain ⟨hcz27_0, hcz27_1, hcz27_2, hcz27_3, hfz27_0, hfz27_1, hfz27_2, hfz27_3⟩ := cells4 BK124.out))
      repeat (go_quiet (first | (refine bx 2 #[.int .i64 0, .string (⟨#[]⟩ : ByteArray), .int .i64 0, .int .i64 0] 32 ?_; intro gb124 hg w23 hbox hb; have n0_ := Aside0.mk (IsS122.below qI hb); have n1_ := Aside0.mk (KeepBut.trans (w := w) qH (KeepBut.of_below hb g none) (.inl rfl)); have n2_ := bst hb; have n3_ := Aside0.mk (hbox); have n4_ := gkS (w := w) hg; have n5_ := Aside0.mk ((Nat.le_trans HW0.out (by rw [hg]; exact (keep_size (w := w) (g := g) (row := none) qH) : w.heap.size ≤ gb124) : w0.heap.size ≤ gb124)); have n6_ := niS hg; have n7_ := niT hg; clear HI0; clear HK; clear HB; have HI0 := n0_; have HK := n1_; have HB := n2_; have BK124 := n3_; have GW124 := n4_; have GE124 := n5_; have NB0_124 := n6_; have NB124_0 := n7_; clear n0_ n1_ n2_ n3_ n4_ n5_ n6_ n7_; clear hb hbox hg; obtain ⟨HGz24, hgz24⟩ := HI0.out; have hcz24_0 := cellS122_0 HGz24; have hcz24_1 := cellS122_1 HGz24; have hfz24_0 := blk_frozen HGz24 0; have hfz24_1 := blk_frozen HGz24 1; clear HGz24 hgz24; have p4 : 0 ≤ (s0_1 : Int) := qD; have q4 : s0_1 < (s0_0.size : Int) := qD; have hx4 := bt_at s0_0 s0_1; replace p4 := eq_true p4; replace q4 := eq_true q4) | (go_at_call 102; (with_reducible refine (tok_small.calls (bt s0_0 s0_1) false _ A5.out).mono ?_); rintro e w' ⟨rfl, ⟨nd, rfl⟩⟩; (try exact qW)) | (go_at_call 104; (with_reducible refine (tok_digit.calls (bt s0_0 s0_1) false _ A13.out).mono ?_); rintro e w' ⟨rfl, ⟨nd, rfl⟩⟩; (try exact qW)) | (go_at_call 106; (with_reducible refine (tok_reader_quote.calls k g s0_0 s0_1 t141 t142 t143 t144 t145 t146 t147 w0 _ ?side1 ?side2 A22.out).mono ?_); (case side1 => repeat (first | (with_reducible first | exact HI0.out | apply IsS122.alloc | apply IsS122.drewN | apply IsS122.drew | apply IsS122.set_0 | apply IsS122.set_1 | refine IsS122.far ?_ NB0_124.out _) | exact HI0.out)); (case side2 => repeat (first | (with_reducible first | exact HB.out | apply below_alloc | apply pw_below_drewN | apply below_drew1 | refine below_set ?_ (IsS122.ge HI0.out) | refine below_set ?_ GE124.out) | exact HB.out)); rintro e w25 ⟨rfl, hi, hb, hk⟩; replace BK124 := Aside0.mk (KeepBut.blk hk (g' := gb124) (o := .cells #[.int .i64 0, .string (⟨#[]⟩ : ByteArray), .int .i64 0, .int .i64 0] 32 (0, 0)) qK NB124_0.out (by simp)); replace HI0 := Aside0.mk (hi); replace HK := Aside0.mk (KeepBut.trans (w := w) qH hk (.inl rfl)); replace HB := Aside0.mk (hb); (try clear hb); (try clear hk); (try clear hi); have hnb26 := NB124_0.out; have hnc26 := NB0_124.out; obtain ⟨hcz27_0, hcz27_1, hcz27_2, hcz27_3, hfz27_0, hfz27_1, hfz27_2, hfz27_3⟩ := cells4 BK124.out)); try go_wp2_with (first | (refine bx 2 #[.int .i64 0, .string (⟨#[]⟩ : ByteArray), .int .i64 0, .int .i64 0] 32 ?_; intro gb124 hg w23 hbox hb; have n0_ := Aside0.mk (IsS122.below qI hb); have n1_ := Aside0.mk (KeepBut.trans (w := w) qH (KeepBut.of_below hb g none) (.inl rfl)); have n2_ := bst hb; have n3_ := Aside0.mk (hbox); have n4_ := gkS (w := w) hg; have n5_ := Aside0.mk ((Nat.le_trans HW0.out (by rw [hg]; exact (keep_size (w := w) (g := g) (row := none) qH) : w.heap.size ≤ gb124) : w0.heap.size ≤ gb124)); have n6_ := niS hg; have n7_ := niT hg; clear HI0; clear HK; clear HB; have HI0 := n0_; have HK := n1_; have HB := n2_; have BK124 := n3_; have GW124 := n4_; have GE124 := n5_; have NB0_124 := n6_; have NB124_0 := n7_; clear n0_ n1_ n2_ n3_ n4_ n5_ n6_ n7_; clear hb hbox hg; obtain ⟨HGz24, hgz24⟩ := HI0.out; have hcz24_0 := cellS122_0 HGz24; have hcz24_1 := cellS122_1 HGz24; have hfz24_0 := blk_frozen HGz24 0; have hfz24_1 := blk_frozen HGz24 1; clear HGz24 hgz24; have p4 : 0 ≤ (s0_1 : Int) := qD; have q4 : s0_1 < (s0_0.size : Int) := qD; have hx4 := bt_at s0_0 s0_1; replace p4 := eq_true p4; replace q4 := eq_true q4) | (go_at_call 102; (with_reducible refine (tok_small.calls (bt s0_0 s0_1) false _ A5.out).mono ?_); rintro e w' ⟨rfl, ⟨nd, rfl⟩⟩; (try exact qW)) | (go_at_call 104; (with_reducible refine (tok_digit.calls (bt s0_0 s0_1) false _ A13.out).mono ?_); rintro e w' ⟨rfl, ⟨nd, rfl⟩⟩; (try exact qW)) | (go_at_call 106; (with_reducible refine (tok_reader_quote.calls k g s0_0 s0_1 t141 t142 t143 t144 t145 t146 t147 w0 _ ?side1 ?side2 A22.out).mono ?_); (case side1 => repeat (first | (with_reducible first | exact HI0.out | apply IsS122.alloc | apply IsS122.drewN | apply IsS122.drew | apply IsS122.set_0 | apply IsS122.set_1 | refine IsS122.far ?_ NB0_124.out _) | exact HI0.out)); (case side2 => repeat (first | (with_reducible first | exact HB.out | apply below_alloc | apply pw_below_drewN | apply below_drew1 | refine below_set ?_ (IsS122.ge HI0.out) | refine below_set ?_ GE124.out) | exact HB.out)); rintro e w25 ⟨rfl, hi, hb, hk⟩; replace BK124 := Aside0.mk (KeepBut.blk hk (g' := gb124) (o := .cells #[.int .i64 0, .string (⟨#[]⟩ : ByteArray), .int .i64 0, .int .i64 0] 32 (0, 0)) qK NB124_0.out (by simp)); replace HI0 := Aside0.mk (hi); replace HK := Aside0.mk (KeepBut.trans (w := w) qH hk (.inl rfl)); replace HB := Aside0.mk (hb); (try clear hb); (try clear hk); (try clear hi); have hnb26 := NB124_0.out; have hnc26 := NB0_124.out; obtain ⟨hcz27_0, hcz27_1, hcz27_2, hcz27_3, hfz27_0, hfz27_1, hfz27_2, hfz27_3⟩ := cells4 BK124.out)))
      refine bodyPost_ret (results_ct rfl _ _ gb124 32 #[.int .i64 t141, .string t142, .int .i64 t143, .int .i64 t144] (0, 0) _ rfl qP Tryd.underlying32 rfl (by kernel_rfl)) rfl ?_
      exact ⟨qR, qI, qB, qH⟩
     ·rw [if_neg c21] at H
      have c21b0 := beq_eq_false_iff_ne.mpr c21
      have c21b1 := bne_iff_ne.mpr c21
      replace H := Option.bind_eq_some_iff.mp H
      obtain ⟨⟨t148, t149, t150, t151, t152, t153, t154⟩, A280, H⟩ := H
      (try dsimp -simprocs only at H)
      have A28 := Aside0.mk A280
      clear A280
      simp only [Option.some.injEq, Prod.mk.injEq] at H
      obtain ⟨rfl, rfl, rfl, rfl, rfl, rfl, rfl⟩ := H
      go_enter Tryd.func69, Tryd.ntmps69
      go_wp2_with (first | (refine bx 2 #[.int .i64 0, .string (⟨#[]⟩ : ByteArray), .int .i64 0, .int .i64 0] 32 ?_; intro gb124 hg w29 hbox hb; have n0_ := Aside0.mk (IsS122.below qI hb); have n1_ := Aside0.mk (KeepBut.trans (w := w) qH (KeepBut.of_below hb g none) (.inl rfl)); have n2_ := bst hb; have n3_ := Aside0.mk (hbox); have n4_ := gkS (w := w) hg; have n5_ := Aside0.mk ((Nat.le_trans HW0.out (by rw [hg]; exact (keep_size (w := w) (g := g) (row := none) qH) : w.heap.size ≤ gb124) : w0.heap.size ≤ gb124)); have n6_ := niS hg; have n7_ := niT hg; clear HI0; clear HK; clear HB; have HI0 := n0_; have HK := n1_; have HB := n2_; have BK124 := n3_; have GW124 := n4_; have GE124 := n5_; have NB0_124 := n6_; have NB124_0 := n7_; clear n0_ n1_ n2_ n3_ n4_ n5_ n6_ n7_; clear hb hbox hg; obtain ⟨HGz30, hgz30⟩ := HI0.out; have hcz30_0 := cellS122_0 HGz30; have hcz30_1 := cellS122_1 HGz30; have hfz30_0 := blk_frozen HGz30 0; have hfz30_1 := blk_frozen HGz30 1; clear HGz30 hgz30; have p4 : 0 ≤ (s0_1 : Int) := qD; have q4 : s0_1 < (s0_0.size : Int) := qD; have hx4 := bt_at s0_0 s0_1; replace p4 := eq_true p4; replace q4 := eq_true q4) | (go_at_call 102; (with_reducible refine (tok_small.calls (bt s0_0 s0_1) false _ A5.out).mono ?_); rintro e w' ⟨rfl, ⟨nd, rfl⟩⟩; (try exact qW)) | (go_at_call 104; (with_reducible refine (tok_digit.calls (bt s0_0 s0_1) false _ A13.out).mono ?_); rintro e w' ⟨rfl, ⟨nd, rfl⟩⟩; (try exact qW)) | (go_at_call 107; (with_reducible refine (tok_reader_sign.calls g s0_0 s0_1 t148 t149 t150 t151 t152 t153 t154 w0 _ ?side1 ?side2 ?side3 A28.out).mono ?_); (case side1 => repeat (first | (with_reducible first | exact HI0.out | apply IsS122.alloc | apply IsS122.drewN | apply IsS122.drew | apply IsS122.set_0 | apply IsS122.set_1 | refine IsS122.far ?_ NB0_124.out _) | exact HI0.out)); (case side2 => repeat (first | (with_reducible first | exact HB.out | apply below_alloc | apply pw_below_drewN | apply below_drew1 | refine below_set ?_ (IsS122.ge HI0.out) | refine below_set ?_ GE124.out) | exact HB.out)); (case side3 => exact HLD.out); rintro e w31 ⟨rfl, hi, hb, hk⟩; replace BK124 := Aside0.mk (KeepBut.blk hk (g' := gb124) (o := .cells #[.int .i64 0, .string (⟨#[]⟩ : ByteArray), .int .i64 0, .int .i64 0] 32 (0, 0)) qK NB124_0.out (by simp)); replace HI0 := Aside0.mk (hi); replace HK := Aside0.mk (KeepBut.trans (w := w) qH hk (.inl rfl)); replace HB := Aside0.mk (hb); (try clear hb); (try clear hk); (try clear hi); have hnb32 := NB124_0.out; have hnc32 := NB0_124.out; obtain ⟨hcz33_0, hcz33_1, hcz33_2, hcz33_3, hfz33_0, hfz33_1, hfz33_2, hfz33_3⟩ := cells4 BK124.out))
      repeat (go_quiet (first | (refine bx 2 #[.int .i64 0, .string (⟨#[]⟩ : ByteArray), .int .i64 0, .int .i64 0] 32 ?_; intro gb124 hg w29 hbox hb; have n0_ := Aside0.mk (IsS122.below qI hb); have n1_ := Aside0.mk (KeepBut.trans (w := w) qH (KeepBut.of_below hb g none) (.inl rfl)); have n2_ := bst hb; have n3_ := Aside0.mk (hbox); have n4_ := gkS (w := w) hg; have n5_ := Aside0.mk ((Nat.le_trans HW0.out (by rw [hg]; exact (keep_size (w := w) (g := g) (row := none) qH) : w.heap.size ≤ gb124) : w0.heap.size ≤ gb124)); have n6_ := niS hg; have n7_ := niT hg; clear HI0; clear HK; clear HB; have HI0 := n0_; have HK := n1_; have HB := n2_; have BK124 := n3_; have GW124 := n4_; have GE124 := n5_; have NB0_124 := n6_; have NB124_0 := n7_; clear n0_ n1_ n2_ n3_ n4_ n5_ n6_ n7_; clear hb hbox hg; obtain ⟨HGz30, hgz30⟩ := HI0.out; have hcz30_0 := cellS122_0 HGz30; have hcz30_1 := cellS122_1 HGz30; have hfz30_0 := blk_frozen HGz30 0; have hfz30_1 := blk_frozen HGz30 1; clear HGz30 hgz30; have p4 : 0 ≤ (s0_1 : Int) := qD; have q4 : s0_1 < (s0_0.size : Int) := qD; have hx4 := bt_at s0_0 s0_1; replace p4 := eq_true p4; replace q4 := eq_true q4) | (go_at_call 102; (with_reducible refine (tok_small.calls (bt s0_0 s0_1) false _ A5.out).mono ?_); rintro e w' ⟨rfl, ⟨nd, rfl⟩⟩; (try exact qW)) | (go_at_call 104; (with_reducible refine (tok_digit.calls (bt s0_0 s0_1) false _ A13.out).mono ?_); rintro e w' ⟨rfl, ⟨nd, rfl⟩⟩; (try exact qW)) | (go_at_call 107; (with_reducible refine (tok_reader_sign.calls g s0_0 s0_1 t148 t149 t150 t151 t152 t153 t154 w0 _ ?side1 ?side2 ?side3 A28.out).mono ?_); (case side1 => repeat (first | (with_reducible first | exact HI0.out | apply IsS122.alloc | apply IsS122.drewN | apply IsS122.drew | apply IsS122.set_0 | apply IsS122.set_1 | refine IsS122.far ?_ NB0_124.out _) | exact HI0.out)); (case side2 => repeat (first | (with_reducible first | exact HB.out | apply below_alloc | apply pw_below_drewN | apply below_drew1 | refine below_set ?_ (IsS122.ge HI0.out) | refine below_set ?_ GE124.out) | exact HB.out)); (case side3 => exact HLD.out); rintro e w31 ⟨rfl, hi, hb, hk⟩; replace BK124 := Aside0.mk (KeepBut.blk hk (g' := gb124) (o := .cells #[.int .i64 0, .string (⟨#[]⟩ : ByteArray), .int .i64 0, .int .i64 0] 32 (0, 0)) qK NB124_0.out (by simp)); replace HI0 := Aside0.mk (hi); replace HK := Aside0.mk (KeepBut.trans (w := w) qH hk (.inl rfl)); replace HB := Aside0.mk (hb); (try clear hb); (try clear hk); (try clear hi); have hnb32 := NB124_0.out; have hnc32 := NB0_124.out; obtain ⟨hcz33_0, hcz33_1, hcz33_2, hcz33_3, hfz33_0, hfz33_1, hfz33_2, hfz33_3⟩ := cells4 BK124.out)); try go_wp2_with (first | (refine bx 2 #[.int .i64 0, .string (⟨#[]⟩ : ByteArray), .int .i64 0, .int .i64 0] 32 ?_; intro gb124 hg w29 hbox hb; have n0_ := Aside0.mk (IsS122.below qI hb); have n1_ := Aside0.mk (KeepBut.trans (w := w) qH (KeepBut.of_below hb g none) (.inl rfl)); have n2_ := bst hb; have n3_ := Aside0.mk (hbox); have n4_ := gkS (w := w) hg; have n5_ := Aside0.mk ((Nat.le_trans HW0.out (by rw [hg]; exact (keep_size (w := w) (g := g) (row := none) qH) : w.heap.size ≤ gb124) : w0.heap.size ≤ gb124)); have n6_ := niS hg; have n7_ := niT hg; clear HI0; clear HK; clear HB; have HI0 := n0_; have HK := n1_; have HB := n2_; have BK124 := n3_; have GW124 := n4_; have GE124 := n5_; have NB0_124 := n6_; have NB124_0 := n7_; clear n0_ n1_ n2_ n3_ n4_ n5_ n6_ n7_; clear hb hbox hg; obtain ⟨HGz30, hgz30⟩ := HI0.out; have hcz30_0 := cellS122_0 HGz30; have hcz30_1 := cellS122_1 HGz30; have hfz30_0 := blk_frozen HGz30 0; have hfz30_1 := blk_frozen HGz30 1; clear HGz30 hgz30; have p4 : 0 ≤ (s0_1 : Int) := qD; have q4 : s0_1 < (s0_0.size : Int) := qD; have hx4 := bt_at s0_0 s0_1; replace p4 := eq_true p4; replace q4 := eq_true q4) | (go_at_call 102; (with_reducible refine (tok_small.calls (bt s0_0 s0_1) false _ A5.out).mono ?_); rintro e w' ⟨rfl, ⟨nd, rfl⟩⟩; (try exact qW)) | (go_at_call 104; (with_reducible refine (tok_digit.calls (bt s0_0 s0_1) false _ A13.out).mono ?_); rintro e w' ⟨rfl, ⟨nd, rfl⟩⟩; (try exact qW)) | (go_at_call 107; (with_reducible refine (tok_reader_sign.calls g s0_0 s0_1 t148 t149 t150 t151 t152 t153 t154 w0 _ ?side1 ?side2 ?side3 A28.out).mono ?_); (case side1 => repeat (first | (with_reducible first | exact HI0.out | apply IsS122.alloc | apply IsS122.drewN | apply IsS122.drew | apply IsS122.set_0 | apply IsS122.set_1 | refine IsS122.far ?_ NB0_124.out _) | exact HI0.out)); (case side2 => repeat (first | (with_reducible first | exact HB.out | apply below_alloc | apply pw_below_drewN | apply below_drew1 | refine below_set ?_ (IsS122.ge HI0.out) | refine below_set ?_ GE124.out) | exact HB.out)); (case side3 => exact HLD.out); rintro e w31 ⟨rfl, hi, hb, hk⟩; replace BK124 := Aside0.mk (KeepBut.blk hk (g' := gb124) (o := .cells #[.int .i64 0, .string (⟨#[]⟩ : ByteArray), .int .i64 0, .int .i64 0] 32 (0, 0)) qK NB124_0.out (by simp)); replace HI0 := Aside0.mk (hi); replace HK := Aside0.mk (KeepBut.trans (w := w) qH hk (.inl rfl)); replace HB := Aside0.mk (hb); (try clear hb); (try clear hk); (try clear hi); have hnb32 := NB124_0.out; have hnc32 := NB0_124.out; obtain ⟨hcz33_0, hcz33_1, hcz33_2, hcz33_3, hfz33_0, hfz33_1, hfz33_2, hfz33_3⟩ := cells4 BK124.out)))
      refine bodyPost_ret (results_ct rfl _ _ gb124 32 #[.int .i64 t148, .string t149, .int .i64 t150, .int .i64 t151] (0, 0) _ rfl qP Tryd.underlying32 rfl (by kernel_rfl)) rfl ?_
      exact ⟨qR, qI, qB, qH⟩
  ·rw [if_neg c3] at H
   exact absurd H (by simp)
 ·rw [if_neg c2] at H
  exact absurd H (by simp)
def tok_Lex_1.f (a0 : Int) : Option (Bool) := some (a0 == 32)
set_option maxHeartbeats 8000000 in
set_option maxRecDepth 100000 in
theorem tok_Lex_1.calls (a0 : Int) (r : Bool) (w : World) (h : tok_Lex_1.f a0 = some r) :
  Calls Tryd.prog 68 #[.int .u8 a0] w fun e w' => e = .returned (.bool r) ∧ Drawn0 w w' := by
 have H : (some (a0 == 32)) = some r := h
 clear h
 obtain rfl := Option.some.inj H
 go_enter Tryd.func68, Tryd.ntmps68
 go_wp2
 go_ret
 exact ⟨by first | rfl | (simp; done) | (simp [*]; done), by repeat (first | exact Drawn0.refl _ | apply Drawn0.step)⟩
def tok_reader_while_blank.l0 : Nat → Int → ByteArray → Int → Option (ByteArray × ByteArray × Int)
 | 0, _, _, _ => none
 | k + 1, x5, x1000, x1001 => if x1001 < (x1000.size : Int) then (if 0 ≤ x1001 then ((tok_Lex_1.f (bt x1000 x1001)).bind fun t155 => (if t155 = true then (tok_reader_while_blank.l0 k x5 x1000 (wrap64 (x1001 + 1))) else (if 0 ≤ x5 then (if x5 ≤ x1001 then (if x1001 ≤ (x1000.size : Int) then (some (x1000.extract (x5 : Int).toNat (x1001 : Int).toNat, x1000, x1001)) else (none)) else (none)) else (none)))) else (none)) else (if 0 ≤ x5 then (if x5 ≤ x1001 then (if x1001 ≤ (x1000.size : Int) then (some (x1000.extract (x5 : Int).toNat (x1001 : Int).toNat, x1000, x1001)) else (none)) else (none)) else (none))
def tok_reader_while_blank.f (k : Nat) (s0_0 : ByteArray) (s0_1 : Int) : Option (ByteArray × ByteArray × Int) := tok_reader_while_blank.l0 k s0_1 s0_0 s0_1
set_option maxHeartbeats 8000000 in
set_option maxRecDepth 100000 in
theorem tok_reader_while_blank.calls (k : Nat) (g : Nat) (s0_0 : ByteArray) (s0_1 : Int) (r1 : ByteArray) (r2 : ByteArray) (r3 : Int) (w0 w : World) (hI : IsS122 w0 w g s0_0 s0_1) (hB : Below w0.heap.size w0 w) (h : tok_reader_while_blank.f k s0_0 s0_1 = some (r1, r2, r3)) :
  Calls Tryd.prog 67 #[.pointer (some ⟨g, 0, none⟩), .func (.func 68) #[] #[]] w fun e w' => e = .returned (.string r1) ∧ IsS122 w0 w' g r2 r3 ∧ Below w0.heap.size w0 w' ∧ KeepBut w w' g none := by
 have HI0 := Aside0.mk hI
 have HK := Aside0.mk (KeepBut.refl w g none)
 have HL := Aside0.mk hB.size
 clear hI
 have HW0 := Aside0.mk hB.size
 have HB := Aside0.mk hB
 clear hB
 have H : (tok_reader_while_blank.l0 k s0_1 s0_0 s0_1) = some (r1, r2, r3) := h
 clear h
 have H' := Aside0.mk H
 clear H
 obtain ⟨HGz2, hgz2⟩ := HI0.out
 have hcz2_0 := cellS122_0 HGz2
 have hcz2_1 := cellS122_1 HGz2
 have hfz2_0 := blk_frozen HGz2 0
 have hfz2_1 := blk_frozen HGz2 1
 clear HGz2 hgz2
 go_enter Tryd.func67, Tryd.ntmps67
 go_wp2
 repeat (go_quiet (fail); try go_wp2)
 go_loopg [] k (fun kq w' => ∃ (x1001_1 : Int), Aside0 (tok_reader_while_blank.l0 kq s0_1 s0_0 x1001_1 = some (r1, r2, r3)) ∧ Aside0 (kq ≤ k) ∧ Aside0 (IsS122 w0 w' g s0_0 x1001_1) ∧ Aside0 (KeepBut w w' g none) ∧ Aside0 (Below w0.heap.size w0 w'))
 case atStart => exact ⟨(s0_1), H', ⟨Nat.le_refl _⟩, ⟨qI⟩, ⟨qH⟩, ⟨qB⟩⟩
 case round =>
  clear H'
  try clear p2
  try clear hcz2_0 hcz2_1 hfz2_0 hfz2_1
  obtain ⟨x1001_1, HA, HK1, HI0, HK, HB⟩ := hrel
  cases gk with
  | zero => exact absurd HA.out (by simp [tok_reader_while_blank.l0])
  | succ k1 =>
   have H := HA.out
   clear HA
   simp only [tok_reader_while_blank.l0] at H
   by_cases c3 : x1001_1 < (s0_0.size : Int)
   ·rw [if_pos c3] at H
    have c3b0 := decide_eq_true c3
    clear c3
    by_cases c4 : 0 ≤ x1001_1
    ·rw [if_pos c4] at H
     have c4b0 := decide_eq_true c4
     clear c4
     replace H := Option.bind_eq_some_iff.mp H
     obtain ⟨t155, A60, H⟩ := H
     (try dsimp -simprocs only at H)
     have A6 := Aside0.mk A60
     clear A60
     by_cases c7 : t155 = true
     ·subst c7
      rw [if_pos rfl] at H
      have H' := Aside0.mk H
      clear H
      obtain ⟨HGz8, hgz8⟩ := HI0.out
      have hcz8_0 := cellS122_0 HGz8
      have hcz8_1 := cellS122_1 HGz8
      have hfz8_0 := blk_frozen HGz8 0
      have hfz8_1 := blk_frozen HGz8 1
      clear HGz8 hgz8
      have p5 : 0 ≤ (x1001_1 : Int) := qD
      have q5 : x1001_1 < (s0_0.size : Int) := qD
      have hx5 := bt_at s0_0 x1001_1
      replace p5 := eq_true p5
      replace q5 := eq_true q5
      go_wp2_with (first | (go_at_call 68; (with_reducible refine (tok_Lex_1.calls (bt s0_0 x1001_1) true _ A6.out).mono ?_); rintro e w' ⟨rfl, ⟨nd, rfl⟩⟩; (try exact qW)))
      repeat (go_quiet (first | (go_at_call 68; (with_reducible refine (tok_Lex_1.calls (bt s0_0 x1001_1) true _ A6.out).mono ?_); rintro e w' ⟨rfl, ⟨nd, rfl⟩⟩; (try exact qW))); try go_wp2_with (first | (go_at_call 68; (with_reducible refine (tok_Lex_1.calls (bt s0_0 x1001_1) true _ A6.out).mono ?_); rintro e w' ⟨rfl, ⟨nd, rfl⟩⟩; (try exact qW))))
      go_roundg k1
      case measure => have := HK1.out; omega
      case rel => exact ⟨(wrap64 (x1001_1 + 1)), H', ⟨by have := HK1.out; omega⟩, ⟨qI⟩, ⟨qH⟩, ⟨qB⟩⟩
     ·replace c7 := Bool.eq_false_iff.mpr c7
      subst c7
      rw [if_neg (show ¬ (false = true) by decide)] at H
      by_cases c9 : 0 ≤ s0_1
      ·rw [if_pos c9] at H
       have c9b0 := eq_true c9
       have c9b1 := decide_eq_true c9
       clear c9
       by_cases c10 : s0_1 ≤ x1001_1
       ·rw [if_pos c10] at H
        have c10b0 := eq_true c10
        have c10b1 := decide_eq_true c10
        clear c10
        by_cases c11 : x1001_1 ≤ (s0_0.size : Int)
        ·rw [if_pos c11] at H
         have c11b0 := eq_true c11
         have c11b1 := decide_eq_true c11
         clear c11
         simp only [Option.some.injEq, Prod.mk.injEq] at H
         obtain ⟨rfl, rfl, rfl⟩ := H
         obtain ⟨HGz12, hgz12⟩ := HI0.out
         have hcz12_0 := cellS122_0 HGz12
         have hcz12_1 := cellS122_1 HGz12
         have hfz12_0 := blk_frozen HGz12 0
         have hfz12_1 := blk_frozen HGz12 1
         clear HGz12 hgz12
         have p5 : 0 ≤ (x1001_1 : Int) := qD
         have q5 : x1001_1 < (s0_0.size : Int) := qD
         have hx5 := bt_at s0_0 x1001_1
         replace p5 := eq_true p5
         replace q5 := eq_true q5
         go_wp2_with (first | (go_at_call 68; (with_reducible refine (tok_Lex_1.calls (bt s0_0 x1001_1) false _ A6.out).mono ?_); rintro e w' ⟨rfl, ⟨nd, rfl⟩⟩; (try exact qW)))
         repeat (go_quiet (first | (go_at_call 68; (with_reducible refine (tok_Lex_1.calls (bt s0_0 x1001_1) false _ A6.out).mono ?_); rintro e w' ⟨rfl, ⟨nd, rfl⟩⟩; (try exact qW))); try go_wp2_with (first | (go_at_call 68; (with_reducible refine (tok_Lex_1.calls (bt s0_0 x1001_1) false _ A6.out).mono ?_); rintro e w' ⟨rfl, ⟨nd, rfl⟩⟩; (try exact qW))))
         go_ret
         exact ⟨qR, qI, qB, qH⟩
        ·rw [if_neg c11] at H
         exact absurd H (by simp)
       ·rw [if_neg c10] at H
        exact absurd H (by simp)
      ·rw [if_neg c9] at H
       exact absurd H (by simp)
    ·rw [if_neg c4] at H
     exact absurd H (by simp)
   ·rw [if_neg c3] at H
    have c3b0 := decide_eq_false c3
    clear c3
    by_cases c13 : 0 ≤ s0_1
    ·rw [if_pos c13] at H
     have c13b0 := eq_true c13
     have c13b1 := decide_eq_true c13
     clear c13
     by_cases c14 : s0_1 ≤ x1001_1
     ·rw [if_pos c14] at H
      have c14b0 := eq_true c14
      have c14b1 := decide_eq_true c14
      clear c14
      by_cases c15 : x1001_1 ≤ (s0_0.size : Int)
      ·rw [if_pos c15] at H
       have c15b0 := eq_true c15
       have c15b1 := decide_eq_true c15
       clear c15
       simp only [Option.some.injEq, Prod.mk.injEq] at H
       obtain ⟨rfl, rfl, rfl⟩ := H
       obtain ⟨HGz16, hgz16⟩ := HI0.out
       have hcz16_0 := cellS122_0 HGz16
       have hcz16_1 := cellS122_1 HGz16
       have hfz16_0 := blk_frozen HGz16 0
       have hfz16_1 := blk_frozen HGz16 1
       clear HGz16 hgz16
       go_wp2
       repeat (go_quiet (fail); try go_wp2)
       go_ret
       exact ⟨qR, qI, qB, qH⟩
      ·rw [if_neg c15] at H
       exact absurd H (by simp)
     ·rw [if_neg c14] at H
      exact absurd H (by simp)
    ·rw [if_neg c13] at H
     exact absurd H (by simp)
end Go.Proofs.YtbngfhlciebeeaaDoor.L
end
section
namespace Go.Proofs.YtbngfhlciebeeaaDoor.Sp
set_option linter.unusedVariables false
set_option linter.unusedSimpArgs false
open Go.RowKit Go.Proofs.YtbngfhlciebeeaaDoor.L Go.Proofs.YtbngfhlciebeeaaDoorW.PrintWords
theorem small_ev (c : UInt8) : tok_small.f (c.toNat : Int) = some (smallB c) := by
  unfold tok_small.f smallB
  by_cases h : 97 ≤ c.toNat
  · rw [if_pos (by omega), decide_eq_true h, Bool.true_and]
    exact congrArg some (decide_eq_decide.2 (by omega))
  · rw [if_neg (by omega), decide_eq_false h]; rfl
theorem digit_ev (c : UInt8) : tok_digit.f (c.toNat : Int) = some (isDigit c) := by
  unfold tok_digit.f isDigit
  by_cases h : 48 ≤ c.toNat
  · rw [if_pos (by omega), decide_eq_true h, Bool.true_and]
    exact congrArg some (decide_eq_decide.2 (by omega))
  · rw [if_neg (by omega), decide_eq_false h]; rfl
theorem beq_cast (a b : Nat) : ((a : Int) == (b : Int)) = (a == b) := by
  by_cases h : a = b
  · subst h; simp
  · rw [beq_eq_false_iff_ne.2 h, beq_eq_false_iff_ne]; omega
theorem word_1_ev (c : UInt8) : tok_reader_word_1.f (c.toNat : Int) = some (innerB c) := by
  unfold tok_reader_word_1.f innerB
  rw [small_ev, digit_ev]
  simp only [Option.bind_some]
  cases smallB c
  · cases isDigit c
    · simp; exact beq_cast _ 95
    · rfl
  · rfl
theorem quote_1_ev (c : UInt8) : tok_reader_quote_1.f (c.toNat : Int) = some (noQuoteB c) := by
  unfold tok_reader_quote_1.f noQuoteB
  exact congrArg some (by simp only [bne]; rw [show (39 : Int) = ((39 : Nat) : Int) from rfl, beq_cast])
theorem Lex_1_ev (c : UInt8) : tok_Lex_1.f (c.toNat : Int) = some (blankB c) := by
  unfold tok_Lex_1.f blankB
  exact congrArg some (beq_cast _ 32)
theorem while_word_l (s : ByteArray) (hs : s.size ≤ 1000000000000) (a d : Nat) : ∀ j, a ≤ j → j ≤ s.size → s.size - j = d →
    Ev (fun k => tok_reader_while_word.l0 k (a : Int) s (j : Int)) (s.extract a (pend innerB s.data.toList j), s, ((pend innerB s.data.toList j : Nat) : Int)) := by
  have hl := len_size s
  induction d with
  | zero =>
    intro j ha hj hd
    obtain rfl : j = s.size := by omega
    rw [pend_end (by omega)]
    refine Ev.succ ?_
    simp only [tok_reader_while_word.l0]
    exact Ev.neg (by omega) (Ev.pos (by omega) (Ev.pos (by omega) (Ev.pos (by omega) (Ev.some (by simp)))))
  | succ d ih =>
    intro j ha hj hd
    refine Ev.succ ?_
    simp only [tok_reader_while_word.l0]
    refine Ev.pos (by omega) (Ev.pos (by omega) ?_)
    rw [bt_nat s j (by omega)]
    refine Ev.bind_some (word_1_ev _) ?_
    cases hb : innerB (s.data.toList.getD j 0) with
    | true =>
      rw [pend_step (by omega) hb]
      refine Ev.pos rfl ?_
      rw [wrap_at (by omega) (by omega)]
      exact ih (j + 1) (by omega) (by omega) (by omega)
    | false =>
      rw [pend_stop (by omega) hb]
      exact Ev.neg (by decide) (Ev.pos (by omega) (Ev.pos (by omega) (Ev.pos (by omega) (Ev.some (by simp)))))
theorem while_word_ev (s : ByteArray) (hs : s.size ≤ 1000000000000) (i : Nat) (hi : i ≤ s.size) :
    Ev (fun k => tok_reader_while_word.f k s (i : Int)) (s.extract i (pend innerB s.data.toList i), s, ((pend innerB s.data.toList i : Nat) : Int)) := by
  unfold tok_reader_while_word.f
  exact while_word_l s hs i _ i (Nat.le_refl _) hi rfl
theorem while_digit_l (s : ByteArray) (hs : s.size ≤ 1000000000000) (a d : Nat) : ∀ j, a ≤ j → j ≤ s.size → s.size - j = d →
    Ev (fun k => tok_reader_while_digit.l0 k (a : Int) s (j : Int)) (s.extract a (pend isDigit s.data.toList j), s, ((pend isDigit s.data.toList j : Nat) : Int)) := by
  have hl := len_size s
  induction d with
  | zero =>
    intro j ha hj hd
    obtain rfl : j = s.size := by omega
    rw [pend_end (by omega)]
    refine Ev.succ ?_
    simp only [tok_reader_while_digit.l0]
    exact Ev.neg (by omega) (Ev.pos (by omega) (Ev.pos (by omega) (Ev.pos (by omega) (Ev.some (by simp)))))
  | succ d ih =>
    intro j ha hj hd
    refine Ev.succ ?_
    simp only [tok_reader_while_digit.l0]
    refine Ev.pos (by omega) (Ev.pos (by omega) ?_)
    rw [bt_nat s j (by omega)]
    refine Ev.bind_some (digit_ev _) ?_
    cases hb : isDigit (s.data.toList.getD j 0) with
    | true =>
      rw [pend_step (by omega) hb]
      refine Ev.pos rfl ?_
      rw [wrap_at (by omega) (by omega)]
      exact ih (j + 1) (by omega) (by omega) (by omega)
    | false =>
      rw [pend_stop (by omega) hb]
      exact Ev.neg (by decide) (Ev.pos (by omega) (Ev.pos (by omega) (Ev.pos (by omega) (Ev.some (by simp)))))
theorem while_digit_ev (s : ByteArray) (hs : s.size ≤ 1000000000000) (i : Nat) (hi : i ≤ s.size) :
    Ev (fun k => tok_reader_while_digit.f k s (i : Int)) (s.extract i (pend isDigit s.data.toList i), s, ((pend isDigit s.data.toList i : Nat) : Int)) := by
  unfold tok_reader_while_digit.f
  exact while_digit_l s hs i _ i (Nat.le_refl _) hi rfl
theorem while_quote_l (s : ByteArray) (hs : s.size ≤ 1000000000000) (a d : Nat) : ∀ j, a ≤ j → j ≤ s.size → s.size - j = d →
    Ev (fun k => tok_reader_while_quote.l0 k (a : Int) s (j : Int)) (s.extract a (pend noQuoteB s.data.toList j), s, ((pend noQuoteB s.data.toList j : Nat) : Int)) := by
  have hl := len_size s
  induction d with
  | zero =>
    intro j ha hj hd
    obtain rfl : j = s.size := by omega
    rw [pend_end (by omega)]
    refine Ev.succ ?_
    simp only [tok_reader_while_quote.l0]
    exact Ev.neg (by omega) (Ev.pos (by omega) (Ev.pos (by omega) (Ev.pos (by omega) (Ev.some (by simp)))))
  | succ d ih =>
    intro j ha hj hd
    refine Ev.succ ?_
    simp only [tok_reader_while_quote.l0]
    refine Ev.pos (by omega) (Ev.pos (by omega) ?_)
    rw [bt_nat s j (by omega)]
    refine Ev.bind_some (quote_1_ev _) ?_
    cases hb : noQuoteB (s.data.toList.getD j 0) with
    | true =>
      rw [pend_step (by omega) hb]
      refine Ev.pos rfl ?_
      rw [wrap_at (by omega) (by omega)]
      exact ih (j + 1) (by omega) (by omega) (by omega)
    | false =>
      rw [pend_stop (by omega) hb]
      exact Ev.neg (by decide) (Ev.pos (by omega) (Ev.pos (by omega) (Ev.pos (by omega) (Ev.some (by simp)))))
theorem while_quote_ev (s : ByteArray) (hs : s.size ≤ 1000000000000) (i : Nat) (hi : i ≤ s.size) :
    Ev (fun k => tok_reader_while_quote.f k s (i : Int)) (s.extract i (pend noQuoteB s.data.toList i), s, ((pend noQuoteB s.data.toList i : Nat) : Int)) := by
  unfold tok_reader_while_quote.f
  exact while_quote_l s hs i _ i (Nat.le_refl _) hi rfl
theorem while_blank_l (s : ByteArray) (hs : s.size ≤ 1000000000000) (a d : Nat) : ∀ j, a ≤ j → j ≤ s.size → s.size - j = d →
    Ev (fun k => tok_reader_while_blank.l0 k (a : Int) s (j : Int)) (s.extract a (pend blankB s.data.toList j), s, ((pend blankB s.data.toList j : Nat) : Int)) := by
  have hl := len_size s
  induction d with
  | zero =>
    intro j ha hj hd
    obtain rfl : j = s.size := by omega
    rw [pend_end (by omega)]
    refine Ev.succ ?_
    simp only [tok_reader_while_blank.l0]
    exact Ev.neg (by omega) (Ev.pos (by omega) (Ev.pos (by omega) (Ev.pos (by omega) (Ev.some (by simp)))))
  | succ d ih =>
    intro j ha hj hd
    refine Ev.succ ?_
    simp only [tok_reader_while_blank.l0]
    refine Ev.pos (by omega) (Ev.pos (by omega) ?_)
    rw [bt_nat s j (by omega)]
    refine Ev.bind_some (Lex_1_ev _) ?_
    cases hb : blankB (s.data.toList.getD j 0) with
    | true =>
      rw [pend_step (by omega) hb]
      refine Ev.pos rfl ?_
      rw [wrap_at (by omega) (by omega)]
      exact ih (j + 1) (by omega) (by omega) (by omega)
    | false =>
      rw [pend_stop (by omega) hb]
      exact Ev.neg (by decide) (Ev.pos (by omega) (Ev.pos (by omega) (Ev.pos (by omega) (Ev.some (by simp)))))
theorem while_blank_ev (s : ByteArray) (hs : s.size ≤ 1000000000000) (i : Nat) (hi : i ≤ s.size) :
    Ev (fun k => tok_reader_while_blank.f k s (i : Int)) (s.extract i (pend blankB s.data.toList i), s, ((pend blankB s.data.toList i : Nat) : Int)) := by
  unfold tok_reader_while_blank.f
  exact while_blank_l s hs i _ i (Nat.le_refl _) hi rfl
theorem word_ev (s : ByteArray) (hs : s.size ≤ 1000000000000) (i : Nat) (hi : i ≤ s.size) :
    Ev (fun k => tok_reader_word.f k s (i : Int)) (s.extract i (pend innerB s.data.toList i), s, ((pend innerB s.data.toList i : Nat) : Int)) := by
  unfold tok_reader_word.f
  exact Ev.bind (while_word_ev s hs i hi) (Ev.some rfl)
end Go.Proofs.YtbngfhlciebeeaaDoor.Sp
end
