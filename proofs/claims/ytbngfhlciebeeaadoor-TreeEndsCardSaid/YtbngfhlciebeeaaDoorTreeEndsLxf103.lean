/- Printed and hand-written steps towards the row (TreeEnds), those that it reaches. -/
import Derived.Test.YtbngfhlciebeeaaDoorTreeEndsG5
import Derived.Test.YtbngfhlciebeeaaDoorTreeEndsG6
import Derived.Test.YtbngfhlciebeeaaDoorTreeEndsG7
import Derived.Test.YtbngfhlciebeeaaDoorTreeEndsG9
namespace Go.Proofs.YtbngfhlciebeeaaDoor.L
open Go.RowKit Go.Proofs.YtbngfhlciebeeaaDoorW.PrintWords Go.Proofs.YtbngfhlciebeeaaDoorW.PrintLast Go.Proofs.YtbngfhlciebeeaaDoorW.PrintMore
attribute [local go_sem] max2_int min2_int max_two min_two max_three min_three max_four min_four   -- for this text's walks alone
set_option linter.unusedVariables false
set_option linter.unusedSimpArgs false
mutual
def tok_reader_path.l0 : Nat → ByteArray → Int → Int → ByteArray → Int → Int → Option (Int × ByteArray × Int × Int × Int × ByteArray × Int)
 | 0, _, _, _, _, _, _ => none
 | k + 1, x1000, x1001, x112000, x112001, x112002, x112003 => if (wrap64 (x1001 + 1)) < (x1000.size : Int) then (if 0 ≤ x1001 then (if x1001 < (x1000.size : Int) then (if (bt x1000 x1001) = 46 then (if 0 ≤ (wrap64 (x1001 + 1)) then ((tok_small.f (bt x1000 (wrap64 (x1001 + 1)))).bind fun t112 => (tok_reader_path.j1 k t112 x1000 x1001 x112000 x112001 x112002 x112003)) else (none)) else (tok_reader_path.j1 k false x1000 x1001 x112000 x112001 x112002 x112003)) else (none)) else (none)) else (tok_reader_path.j1 k false x1000 x1001 x112000 x112001 x112002 x112003)
def tok_reader_path.j1 : Nat → Bool → ByteArray → Int → Int → ByteArray → Int → Int → Option (Int × ByteArray × Int × Int × Int × ByteArray × Int)
 | 0, _, _, _, _, _, _, _ => none
 | k + 1, x55, x1000, x1001, x112000, x112001, x112002, x112003 => if x55 = true then ((tok_reader_word.f k x1000 (wrap64 (x1001 + 1))).bind fun bt113 => (if 1 + bt113.1.size ≤ 9223372036854775807 then (if x112001.size + ((⟨#[46]⟩ : ByteArray) ++ bt113.1).size ≤ 9223372036854775807 then (if (bt113.1.size : Int) > 16 then (some (2, x112001 ++ ((⟨#[46]⟩ : ByteArray) ++ bt113.1), x112002, x112003, 15, bt113.2.1, bt113.2.2)) else (tok_reader_path.l0 k bt113.2.1 bt113.2.2 2 (x112001 ++ ((⟨#[46]⟩ : ByteArray) ++ bt113.1)) x112002 x112003)) else (none)) else (none))) else (if (x112001.size : Int) > 32 then (some (x112000, x112001, x112002, x112003, 15, x1000, x1001)) else (some (x112000, x112001, x112002, x112003, 0, x1000, x1001)))
end
def tok_reader_path.f (k : Nat) (s0_0 : ByteArray) (s0_1 : Int) : Option (Int × ByteArray × Int × Int × Int × ByteArray × Int) := (tok_reader_word.f k s0_0 s0_1).bind fun bt108 => (if (bt108.1.size : Int) > 16 then (some (1, bt108.1, 0, bt108.2.2, 15, bt108.2.1, bt108.2.2)) else (tok_reader_path.l0 k bt108.2.1 bt108.2.2 1 bt108.1 0 bt108.2.2))
set_option maxHeartbeats 8000000 in
set_option maxRecDepth 100000 in
theorem tok_reader_path.calls (k : Nat) (g : Nat) (s0_0 : ByteArray) (s0_1 : Int) (r1 : Int) (r2 : ByteArray) (r3 : Int) (r4 : Int) (r5 : Int) (r6 : ByteArray) (r7 : Int) (w0 w : World) (hI : IsS122 w0 w g s0_0 s0_1) (hB : Below w0.heap.size w0 w) (h : tok_reader_path.f k s0_0 s0_1 = some (r1, r2, r3, r4, r5, r6, r7)) :
  Calls Tryd.prog 103 #[.pointer (some ⟨g, 0, none⟩)] w fun e w' => e = .returned (.tuple #[.agg #[.int .i64 r1, .string r2, .int .i64 r3, .int .i64 r4], .int .i64 r5]) ∧ IsS122 w0 w' g r6 r7 ∧ Below w0.heap.size w0 w' ∧ KeepBut w w' g none := by
 have hu32 := Tryd.underlying32
 have HI0 := Aside0.mk hI
 have HK := Aside0.mk (KeepBut.refl w g none)
 have HL := Aside0.mk hB.size
 clear hI
 have HW0 := Aside0.mk hB.size
 have HB := Aside0.mk hB
 clear hB
 have H : ((tok_reader_word.f k s0_0 s0_1).bind fun bt108 => (if (bt108.1.size : Int) > 16 then (some (1, bt108.1, 0, bt108.2.2, 15, bt108.2.1, bt108.2.2)) else (tok_reader_path.l0 k bt108.2.1 bt108.2.2 1 bt108.1 0 bt108.2.2))) = some (r1, r2, r3, r4, r5, r6, r7) := h
 clear h
 replace H := Option.bind_eq_some_iff.mp H
 obtain ⟨⟨t108, t109, t110⟩, A20, H⟩ := H
 (try dsimp -simprocs only at H)
 have A2 := Aside0.mk A20
 clear A20
 by_cases c3 : (t108.size : Int) > 16
 ·rw [if_pos c3] at H
  have c3b0 := decide_eq_true c3
  have c3b1 : decide (16 < t108.size) = true := decide_eq_true (by omega)
  clear c3
  simp only [Option.some.injEq, Prod.mk.injEq] at H
  obtain ⟨rfl, rfl, rfl, rfl, rfl, rfl, rfl⟩ := H
  go_enter Tryd.func103, Tryd.ntmps103
  go_wp2_with (first | ((with_reducible refine gd 2 rfl ?_); refine bx 2 #[.int .i64 0, .string (⟨#[]⟩ : ByteArray), .int .i64 0, .int .i64 0] 32 ?_; intro gb107 hg w4 hbox hb; have n0_ := Aside0.mk (IsS122.below qI hb); have n1_ := Aside0.mk (KeepBut.trans (w := w) qH (KeepBut.of_below hb g none) (.inl rfl)); have n2_ := bst hb; have n3_ := Aside0.mk (hbox); have n4_ := gkS (w := w) hg; have n5_ := Aside0.mk ((Nat.le_trans HW0.out (by rw [hg]; exact (keep_size (w := w) (g := g) (row := none) qH) : w.heap.size ≤ gb107) : w0.heap.size ≤ gb107)); have n6_ := niS hg; have n7_ := niT hg; clear HI0; clear HK; clear HB; have HI0 := n0_; have HK := n1_; have HB := n2_; have BK107 := n3_; have GW107 := n4_; have GE107 := n5_; have NB0_107 := n6_; have NB107_0 := n7_; clear n0_ n1_ n2_ n3_ n4_ n5_ n6_ n7_; clear hb hbox hg) | (go_at_call 132; (with_reducible refine (tok_reader_word.calls k g s0_0 s0_1 t108 t109 t110 w0 _ ?side1 ?side2 A2.out).mono ?_); (case side1 => exact qI); (case side2 => exact qB); rintro e w5 ⟨rfl, hi, hb, hk⟩; replace BK107 := kk gb107 hk NB107_0; replace HI0 := Aside0.mk (hi); replace HK := Aside0.mk (KeepBut.trans (w := w) qH hk (.inl rfl)); replace HB := Aside0.mk (hb); (try clear hb); (try clear hk); (try clear hi); obtain ⟨hcz6_0, hcz6_1, hfz6_0, hfz6_1⟩ := cellsI HI0.out) | ((with_reducible refine gd 5 rfl ?_); refine bx 5 #[.int .i64 0, .string (⟨#[]⟩ : ByteArray), .int .i64 0, .int .i64 0] 32 ?_; intro gb111 hg w7 hbox hb; have n0_ := Aside0.mk (IsS122.below qI hb); have n1_ := kb gb107 hb; have n2_ := Aside0.mk (KeepBut.trans (w := w) qH (KeepBut.of_below hb g none) (.inl rfl)); have n3_ := bst hb; have n4_ := Aside0.mk (hbox); have n5_ := gkS (w := w) hg; have n6_ := Aside0.mk ((Nat.le_trans HW0.out (by rw [hg]; exact (keep_size (w := w) (g := g) (row := none) qH) : w.heap.size ≤ gb111) : w0.heap.size ≤ gb111)); have n7_ := neS gb107 hg; have n8_ := neT gb107 hg; have n9_ := niS hg; have n10_ := niT hg; clear HI0; clear BK107; clear HK; clear HB; have HI0 := n0_; have BK107 := n1_; have HK := n2_; have HB := n3_; have BK111 := n4_; have GW111 := n5_; have GE111 := n6_; have NB107_111 := n7_; have NB111_107 := n8_; have NB0_111 := n9_; have NB111_0 := n10_; clear n0_ n1_ n2_ n3_ n4_ n5_ n6_ n7_ n8_ n9_ n10_; clear hb hbox hg; have hnb8 := NB111_107.out; have hnc8 := NB107_111.out; have hnb9 := NB111_0.out; have hnc9 := NB0_111.out; obtain ⟨hcz10_0, hcz10_1, hcz10_2, hcz10_3, hfz10_0, hfz10_1, hfz10_2, hfz10_3⟩ := cells4 BK111.out; have hnb11 := NB107_0.out; have hnc11 := NB0_107.out; obtain ⟨hcz12_0, hcz12_1, hcz12_2, hcz12_3, hfz12_0, hfz12_1, hfz12_2, hfz12_3⟩ := cells4 BK107.out))
  repeat (go_quiet (first | ((with_reducible refine gd 2 rfl ?_); refine bx 2 #[.int .i64 0, .string (⟨#[]⟩ : ByteArray), .int .i64 0, .int .i64 0] 32 ?_; intro gb107 hg w4 hbox hb; have n0_ := Aside0.mk (IsS122.below qI hb); have n1_ := Aside0.mk (KeepBut.trans (w := w) qH (KeepBut.of_below hb g none) (.inl rfl)); have n2_ := bst hb; have n3_ := Aside0.mk (hbox); have n4_ := gkS (w := w) hg; have n5_ := Aside0.mk ((Nat.le_trans HW0.out (by rw [hg]; exact (keep_size (w := w) (g := g) (row := none) qH) : w.heap.size ≤ gb107) : w0.heap.size ≤ gb107)); have n6_ := niS hg; have n7_ := niT hg; clear HI0; clear HK; clear HB; have HI0 := n0_; have HK := n1_; have HB := n2_; have BK107 := n3_; have GW107 := n4_; have GE107 := n5_; have NB0_107 := n6_; have NB107_0 := n7_; clear n0_ n1_ n2_ n3_ n4_ n5_ n6_ n7_; clear hb hbox hg) | (go_at_call 132; (with_reducible refine (tok_reader_word.calls k g s0_0 s0_1 t108 t109 t110 w0 _ ?side1 ?side2 A2.out).mono ?_); (case side1 => exact qI); (case side2 => exact qB); rintro e w5 ⟨rfl, hi, hb, hk⟩; replace BK107 := kk gb107 hk NB107_0; replace HI0 := Aside0.mk (hi); replace HK := Aside0.mk (KeepBut.trans (w := w) qH hk (.inl rfl)); replace HB := Aside0.mk (hb); (try clear hb); (try clear hk); (try clear hi); obtain ⟨hcz6_0, hcz6_1, hfz6_0, hfz6_1⟩ := cellsI HI0.out) | ((with_reducible refine gd 5 rfl ?_); refine bx 5 #[.int .i64 0, .string (⟨#[]⟩ : ByteArray), .int .i64 0, .int .i64 0] 32 ?_; intro gb111 hg w7 hbox hb; have n0_ := Aside0.mk (IsS122.below qI hb); have n1_ := kb gb107 hb; have n2_ := Aside0.mk (KeepBut.trans (w := w) qH (KeepBut.of_below hb g none) (.inl rfl)); have n3_ := bst hb; have n4_ := Aside0.mk (hbox); have n5_ := gkS (w := w) hg; have n6_ := Aside0.mk ((Nat.le_trans HW0.out (by rw [hg]; exact (keep_size (w := w) (g := g) (row := none) qH) : w.heap.size ≤ gb111) : w0.heap.size ≤ gb111)); have n7_ := neS gb107 hg; have n8_ := neT gb107 hg; have n9_ := niS hg; have n10_ := niT hg; clear HI0; clear BK107; clear HK; clear HB; have HI0 := n0_; have BK107 := n1_; have HK := n2_; have HB := n3_; have BK111 := n4_; have GW111 := n5_; have GE111 := n6_; have NB107_111 := n7_; have NB111_107 := n8_; have NB0_111 := n9_; have NB111_0 := n10_; clear n0_ n1_ n2_ n3_ n4_ n5_ n6_ n7_ n8_ n9_ n10_; clear hb hbox hg; have hnb8 := NB111_107.out; have hnc8 := NB107_111.out; have hnb9 := NB111_0.out; have hnc9 := NB0_111.out; obtain ⟨hcz10_0, hcz10_1, hcz10_2, hcz10_3, hfz10_0, hfz10_1, hfz10_2, hfz10_3⟩ := cells4 BK111.out; have hnb11 := NB107_0.out; have hnc11 := NB0_107.out; obtain ⟨hcz12_0, hcz12_1, hcz12_2, hcz12_3, hfz12_0, hfz12_1, hfz12_2, hfz12_3⟩ := cells4 BK107.out)); try go_wp2_with (first | ((with_reducible refine gd 2 rfl ?_); refine bx 2 #[.int .i64 0, .string (⟨#[]⟩ : ByteArray), .int .i64 0, .int .i64 0] 32 ?_; intro gb107 hg w4 hbox hb; have n0_ := Aside0.mk (IsS122.below qI hb); have n1_ := Aside0.mk (KeepBut.trans (w := w) qH (KeepBut.of_below hb g none) (.inl rfl)); have n2_ := bst hb; have n3_ := Aside0.mk (hbox); have n4_ := gkS (w := w) hg; have n5_ := Aside0.mk ((Nat.le_trans HW0.out (by rw [hg]; exact (keep_size (w := w) (g := g) (row := none) qH) : w.heap.size ≤ gb107) : w0.heap.size ≤ gb107)); have n6_ := niS hg; have n7_ := niT hg; clear HI0; clear HK; clear HB; have HI0 := n0_; have HK := n1_; have HB := n2_; have BK107 := n3_; have GW107 := n4_; have GE107 := n5_; have NB0_107 := n6_; have NB107_0 := n7_; clear n0_ n1_ n2_ n3_ n4_ n5_ n6_ n7_; clear hb hbox hg) | (go_at_call 132; (with_reducible refine (tok_reader_word.calls k g s0_0 s0_1 t108 t109 t110 w0 _ ?side1 ?side2 A2.out).mono ?_); (case side1 => exact qI); (case side2 => exact qB); rintro e w5 ⟨rfl, hi, hb, hk⟩; replace BK107 := kk gb107 hk NB107_0; replace HI0 := Aside0.mk (hi); replace HK := Aside0.mk (KeepBut.trans (w := w) qH hk (.inl rfl)); replace HB := Aside0.mk (hb); (try clear hb); (try clear hk); (try clear hi); obtain ⟨hcz6_0, hcz6_1, hfz6_0, hfz6_1⟩ := cellsI HI0.out) | ((with_reducible refine gd 5 rfl ?_); refine bx 5 #[.int .i64 0, .string (⟨#[]⟩ : ByteArray), .int .i64 0, .int .i64 0] 32 ?_; intro gb111 hg w7 hbox hb; have n0_ := Aside0.mk (IsS122.below qI hb); have n1_ := kb gb107 hb; have n2_ := Aside0.mk (KeepBut.trans (w := w) qH (KeepBut.of_below hb g none) (.inl rfl)); have n3_ := bst hb; have n4_ := Aside0.mk (hbox); have n5_ := gkS (w := w) hg; have n6_ := Aside0.mk ((Nat.le_trans HW0.out (by rw [hg]; exact (keep_size (w := w) (g := g) (row := none) qH) : w.heap.size ≤ gb111) : w0.heap.size ≤ gb111)); have n7_ := neS gb107 hg; have n8_ := neT gb107 hg; have n9_ := niS hg; have n10_ := niT hg; clear HI0; clear BK107; clear HK; clear HB; have HI0 := n0_; have BK107 := n1_; have HK := n2_; have HB := n3_; have BK111 := n4_; have GW111 := n5_; have GE111 := n6_; have NB107_111 := n7_; have NB111_107 := n8_; have NB0_111 := n9_; have NB111_0 := n10_; clear n0_ n1_ n2_ n3_ n4_ n5_ n6_ n7_ n8_ n9_ n10_; clear hb hbox hg; have hnb8 := NB111_107.out; have hnc8 := NB107_111.out; have hnb9 := NB111_0.out; have hnc9 := NB0_111.out; obtain ⟨hcz10_0, hcz10_1, hcz10_2, hcz10_3, hfz10_0, hfz10_1, hfz10_2, hfz10_3⟩ := cells4 BK111.out; have hnb11 := NB107_0.out; have hnc11 := NB0_107.out; obtain ⟨hcz12_0, hcz12_1, hcz12_2, hcz12_3, hfz12_0, hfz12_1, hfz12_2, hfz12_3⟩ := cells4 BK107.out)))
  refine bodyPost_ret (results_ct rfl _ _ gb107 32 #[.int .i64 1, .string t108, .int .i64 0, .int .i64 t110] (0, 0) _ rfl qP Tryd.underlying32 rfl (by kernel_rfl)) rfl ?_
  exact ⟨qR, qI, qB, qH⟩
 ·rw [if_neg c3] at H
  have c3b0 := decide_eq_false c3
  have c3b1 : decide (16 < t108.size) = false := decide_eq_false (by omega)
  clear c3
  have H' := Aside0.mk H
  clear H
  go_enter Tryd.func103, Tryd.ntmps103
  go_wp2_with (first | ((with_reducible refine gd 2 rfl ?_); refine bx 2 #[.int .i64 0, .string (⟨#[]⟩ : ByteArray), .int .i64 0, .int .i64 0] 32 ?_; intro gb107 hg w13 hbox hb; have n0_ := Aside0.mk (IsS122.below qI hb); have n1_ := Aside0.mk (KeepBut.trans (w := w) qH (KeepBut.of_below hb g none) (.inl rfl)); have n2_ := bst hb; have n3_ := Aside0.mk (hbox); have n4_ := gkS (w := w) hg; have n5_ := Aside0.mk ((Nat.le_trans HW0.out (by rw [hg]; exact (keep_size (w := w) (g := g) (row := none) qH) : w.heap.size ≤ gb107) : w0.heap.size ≤ gb107)); have n6_ := niS hg; have n7_ := niT hg; clear HI0; clear HK; clear HB; have HI0 := n0_; have HK := n1_; have HB := n2_; have BK107 := n3_; have GW107 := n4_; have GE107 := n5_; have NB0_107 := n6_; have NB107_0 := n7_; clear n0_ n1_ n2_ n3_ n4_ n5_ n6_ n7_; clear hb hbox hg) | (go_at_call 132; (with_reducible refine (tok_reader_word.calls k g s0_0 s0_1 t108 t109 t110 w0 _ ?side1 ?side2 A2.out).mono ?_); (case side1 => exact qI); (case side2 => exact qB); rintro e w14 ⟨rfl, hi, hb, hk⟩; replace BK107 := kk gb107 hk NB107_0; replace HI0 := Aside0.mk (hi); replace HK := Aside0.mk (KeepBut.trans (w := w) qH hk (.inl rfl)); replace HB := Aside0.mk (hb); (try clear hb); (try clear hk); (try clear hi); obtain ⟨hcz15_0, hcz15_1, hfz15_0, hfz15_1⟩ := cellsI HI0.out) | ((with_reducible refine gd 5 rfl ?_); refine bx 5 #[.int .i64 0, .string (⟨#[]⟩ : ByteArray), .int .i64 0, .int .i64 0] 32 ?_; intro gb111 hg w16 hbox hb; have n0_ := Aside0.mk (IsS122.below qI hb); have n1_ := kb gb107 hb; have n2_ := Aside0.mk (KeepBut.trans (w := w) qH (KeepBut.of_below hb g none) (.inl rfl)); have n3_ := bst hb; have n4_ := Aside0.mk (hbox); have n5_ := gkS (w := w) hg; have n6_ := Aside0.mk ((Nat.le_trans HW0.out (by rw [hg]; exact (keep_size (w := w) (g := g) (row := none) qH) : w.heap.size ≤ gb111) : w0.heap.size ≤ gb111)); have n7_ := neS gb107 hg; have n8_ := neT gb107 hg; have n9_ := niS hg; have n10_ := niT hg; clear HI0; clear BK107; clear HK; clear HB; have HI0 := n0_; have BK107 := n1_; have HK := n2_; have HB := n3_; have BK111 := n4_; have GW111 := n5_; have GE111 := n6_; have NB107_111 := n7_; have NB111_107 := n8_; have NB0_111 := n9_; have NB111_0 := n10_; clear n0_ n1_ n2_ n3_ n4_ n5_ n6_ n7_ n8_ n9_ n10_; clear hb hbox hg; have hnb17 := NB111_107.out; have hnc17 := NB107_111.out; have hnb18 := NB111_0.out; have hnc18 := NB0_111.out; obtain ⟨hcz19_0, hcz19_1, hcz19_2, hcz19_3, hfz19_0, hfz19_1, hfz19_2, hfz19_3⟩ := cells4 BK111.out))
  repeat (go_quiet (first | ((with_reducible refine gd 2 rfl ?_); refine bx 2 #[.int .i64 0, .string (⟨#[]⟩ : ByteArray), .int .i64 0, .int .i64 0] 32 ?_; intro gb107 hg w13 hbox hb; have n0_ := Aside0.mk (IsS122.below qI hb); have n1_ := Aside0.mk (KeepBut.trans (w := w) qH (KeepBut.of_below hb g none) (.inl rfl)); have n2_ := bst hb; have n3_ := Aside0.mk (hbox); have n4_ := gkS (w := w) hg; have n5_ := Aside0.mk ((Nat.le_trans HW0.out (by rw [hg]; exact (keep_size (w := w) (g := g) (row := none) qH) : w.heap.size ≤ gb107) : w0.heap.size ≤ gb107)); have n6_ := niS hg; have n7_ := niT hg; clear HI0; clear HK; clear HB; have HI0 := n0_; have HK := n1_; have HB := n2_; have BK107 := n3_; have GW107 := n4_; have GE107 := n5_; have NB0_107 := n6_; have NB107_0 := n7_; clear n0_ n1_ n2_ n3_ n4_ n5_ n6_ n7_; clear hb hbox hg) | (go_at_call 132; (with_reducible refine (tok_reader_word.calls k g s0_0 s0_1 t108 t109 t110 w0 _ ?side1 ?side2 A2.out).mono ?_); (case side1 => exact qI); (case side2 => exact qB); rintro e w14 ⟨rfl, hi, hb, hk⟩; replace BK107 := kk gb107 hk NB107_0; replace HI0 := Aside0.mk (hi); replace HK := Aside0.mk (KeepBut.trans (w := w) qH hk (.inl rfl)); replace HB := Aside0.mk (hb); (try clear hb); (try clear hk); (try clear hi); obtain ⟨hcz15_0, hcz15_1, hfz15_0, hfz15_1⟩ := cellsI HI0.out) | ((with_reducible refine gd 5 rfl ?_); refine bx 5 #[.int .i64 0, .string (⟨#[]⟩ : ByteArray), .int .i64 0, .int .i64 0] 32 ?_; intro gb111 hg w16 hbox hb; have n0_ := Aside0.mk (IsS122.below qI hb); have n1_ := kb gb107 hb; have n2_ := Aside0.mk (KeepBut.trans (w := w) qH (KeepBut.of_below hb g none) (.inl rfl)); have n3_ := bst hb; have n4_ := Aside0.mk (hbox); have n5_ := gkS (w := w) hg; have n6_ := Aside0.mk ((Nat.le_trans HW0.out (by rw [hg]; exact (keep_size (w := w) (g := g) (row := none) qH) : w.heap.size ≤ gb111) : w0.heap.size ≤ gb111)); have n7_ := neS gb107 hg; have n8_ := neT gb107 hg; have n9_ := niS hg; have n10_ := niT hg; clear HI0; clear BK107; clear HK; clear HB; have HI0 := n0_; have BK107 := n1_; have HK := n2_; have HB := n3_; have BK111 := n4_; have GW111 := n5_; have GE111 := n6_; have NB107_111 := n7_; have NB111_107 := n8_; have NB0_111 := n9_; have NB111_0 := n10_; clear n0_ n1_ n2_ n3_ n4_ n5_ n6_ n7_ n8_ n9_ n10_; clear hb hbox hg; have hnb17 := NB111_107.out; have hnc17 := NB107_111.out; have hnb18 := NB111_0.out; have hnc18 := NB0_111.out; obtain ⟨hcz19_0, hcz19_1, hcz19_2, hcz19_3, hfz19_0, hfz19_1, hfz19_2, hfz19_3⟩ := cells4 BK111.out)); try go_wp2_with (first | ((with_reducible refine gd 2 rfl ?_); refine bx 2 #[.int .i64 0, .string (⟨#[]⟩ : ByteArray), .int .i64 0, .int .i64 0] 32 ?_; intro gb107 hg w13 hbox hb; have n0_ := Aside0.mk (IsS122.below qI hb); have n1_ := Aside0.mk (KeepBut.trans (w := w) qH (KeepBut.of_below hb g none) (.inl rfl)); have n2_ := bst hb; have n3_ := Aside0.mk (hbox); have n4_ := gkS (w := w) hg; have n5_ := Aside0.mk ((Nat.le_trans HW0.out (by rw [hg]; exact (keep_size (w := w) (g := g) (row := none) qH) : w.heap.size ≤ gb107) : w0.heap.size ≤ gb107)); have n6_ := niS hg; have n7_ := niT hg; clear HI0; clear HK; clear HB; have HI0 := n0_; have HK := n1_; have HB := n2_; have BK107 := n3_; have GW107 := n4_; have GE107 := n5_; have NB0_107 := n6_; have NB107_0 := n7_; clear n0_ n1_ n2_ n3_ n4_ n5_ n6_ n7_; clear hb hbox hg) | (go_at_call 132; (with_reducible refine (tok_reader_word.calls k g s0_0 s0_1 t108 t109 t110 w0 _ ?side1 ?side2 A2.out).mono ?_); (case side1 => exact qI); (case side2 => exact qB); rintro e w14 ⟨rfl, hi, hb, hk⟩; replace BK107 := kk gb107 hk NB107_0; replace HI0 := Aside0.mk (hi); replace HK := Aside0.mk (KeepBut.trans (w := w) qH hk (.inl rfl)); replace HB := Aside0.mk (hb); (try clear hb); (try clear hk); (try clear hi); obtain ⟨hcz15_0, hcz15_1, hfz15_0, hfz15_1⟩ := cellsI HI0.out) | ((with_reducible refine gd 5 rfl ?_); refine bx 5 #[.int .i64 0, .string (⟨#[]⟩ : ByteArray), .int .i64 0, .int .i64 0] 32 ?_; intro gb111 hg w16 hbox hb; have n0_ := Aside0.mk (IsS122.below qI hb); have n1_ := kb gb107 hb; have n2_ := Aside0.mk (KeepBut.trans (w := w) qH (KeepBut.of_below hb g none) (.inl rfl)); have n3_ := bst hb; have n4_ := Aside0.mk (hbox); have n5_ := gkS (w := w) hg; have n6_ := Aside0.mk ((Nat.le_trans HW0.out (by rw [hg]; exact (keep_size (w := w) (g := g) (row := none) qH) : w.heap.size ≤ gb111) : w0.heap.size ≤ gb111)); have n7_ := neS gb107 hg; have n8_ := neT gb107 hg; have n9_ := niS hg; have n10_ := niT hg; clear HI0; clear BK107; clear HK; clear HB; have HI0 := n0_; have BK107 := n1_; have HK := n2_; have HB := n3_; have BK111 := n4_; have GW111 := n5_; have GE111 := n6_; have NB107_111 := n7_; have NB111_107 := n8_; have NB0_111 := n9_; have NB111_0 := n10_; clear n0_ n1_ n2_ n3_ n4_ n5_ n6_ n7_ n8_ n9_ n10_; clear hb hbox hg; have hnb17 := NB111_107.out; have hnc17 := NB107_111.out; have hnb18 := NB111_0.out; have hnc18 := NB0_111.out; obtain ⟨hcz19_0, hcz19_1, hcz19_2, hcz19_3, hfz19_0, hfz19_1, hfz19_2, hfz19_3⟩ := cells4 BK111.out)))
  go_loopg [] k (fun kq w' => ∃ (x1000_1 : ByteArray) (x1001_1 : Int) (x108000_1 : Int) (x108001_1 : ByteArray) (x108002_1 : Int) (x108003_1 : Int) (x112000_1 : Int) (x112001_1 : ByteArray), Aside0 (tok_reader_path.l0 kq x1000_1 x1001_1 x112000_1 x112001_1 0 t110 = some (r1, r2, r3, r4, r5, r6, r7)) ∧ Aside0 (kq ≤ k) ∧ Aside0 (w'.heap[gb107]? = some (.cells #[.int .i64 x108000_1, .string x108001_1, .int .i64 x108002_1, .int .i64 x108003_1] 32 (0, 0))) ∧ Aside0 (w'.heap[gb111]? = some (.cells #[.int .i64 x112000_1, .string x112001_1, .int .i64 0, .int .i64 t110] 32 (0, 0))) ∧ Aside0 (IsS122 w0 w' g x1000_1 x1001_1) ∧ Aside0 (KeepBut w w' g none) ∧ Aside0 (Below w0.heap.size w0 w'))
  case atStart => exact ⟨(t109), (t110), (0), ((⟨#[]⟩ : ByteArray)), (0), (0), (1), (t108), H', ⟨Nat.le_refl _⟩, ⟨qK⟩, ⟨qP⟩, ⟨qI⟩, ⟨qH⟩, ⟨qB⟩⟩
  case round =>
   clear H'
   try clear c1
   try clear p2
   try clear c3
   try clear c3b0
   try clear c3b1
   try clear c8
   try clear c9
   try clear c10
   try clear c11
   try clear c17
   try clear c18
   try clear hcz10_0 hcz10_1 hcz10_2 hcz10_3 hfz10_0 hfz10_1 hfz10_2 hfz10_3
   try clear hcz12_0 hcz12_1 hcz12_2 hcz12_3 hfz12_0 hfz12_1 hfz12_2 hfz12_3
   try clear hcz15_0 hcz15_1 hfz15_0 hfz15_1
   try clear hcz19_0 hcz19_1 hcz19_2 hcz19_3 hfz19_0 hfz19_1 hfz19_2 hfz19_3
   try clear hcz6_0 hcz6_1 hfz6_0 hfz6_1
   obtain ⟨x1000_1, x1001_1, x108000_1, x108001_1, x108002_1, x108003_1, x112000_1, x112001_1, HA, HK1, BK107, BK111, HI0, HK, HB⟩ := hrel
   cases gk with
   | zero => exact absurd HA.out (by simp [tok_reader_path.l0])
   | succ k1 =>
    have H := HA.out
    clear HA
    simp only [tok_reader_path.l0] at H
    have HC20 := Aside0.mk H
    clear H
    go_upto_region 5 with (fail)
    repeat (go_quiet (fail); go_upto_region 5 with (fail))
    go_cut [55] (fun v55 wc => ∃ (kq : Nat) (x55_19 : Bool), v55 = .bool x55_19 ∧ Aside0 (tok_reader_path.j1 kq x55_19 x1000_1 x1001_1 x112000_1 x112001_1 0 t110 = some (r1, r2, r3, r4, r5, r6, r7)) ∧ Aside0 (kq ≤ k1) ∧ Aside0 (wc.heap[gb107]? = some (.cells #[.int .i64 x108000_1, .string x108001_1, .int .i64 x108002_1, .int .i64 x108003_1] 32 (0, 0))) ∧ Aside0 (wc.heap[gb111]? = some (.cells #[.int .i64 x112000_1, .string x112001_1, .int .i64 0, .int .i64 t110] 32 (0, 0))) ∧ Aside0 (IsS122 w0 wc g x1000_1 x1001_1) ∧ Aside0 (KeepBut w wc g none) ∧ Aside0 (Below w0.heap.size w0 wc))
    case first =>
     have H := HC20.out
     clear HC20
     replace H := iD H
     rcases H with ⟨c21b0, H⟩ | ⟨c21b0, H⟩
     ·(first | rw [c21b0] | (simp only [i64_w, i32_w]; rw [c21b0]) | skip)
      replace H := iD H
      rcases H with ⟨c22b0, H⟩ | ⟨c22b0, H⟩
      ·by_cases c23 : x1001_1 < (x1000_1.size : Int)
       ·rw [if_pos c23] at H
        have c23b0 := decide_eq_true c23
        clear c23
        by_cases c25 : (bt x1000_1 x1001_1) = 46
        ·rw [if_pos c25] at H
         have c25b0 := beq_iff_eq.mpr c25
         have c25b1 := bne_eq_false_iff_eq.mpr c25
         clear c25
         obtain ⟨ji26, hji26⟩ : ∃ j_ : Int, (wrap64 (x1001_1 + 1)) = j_ := ⟨_, rfl⟩
         replace H : (if 0 ≤ (ji26) then ((tok_small.f (bt x1000_1 (ji26))).bind fun t112 => (tok_reader_path.j1 k1 t112 x1000_1 x1001_1 x112000_1 x112001_1 0 t110)) else (none)) = some (r1, r2, r3, r4, r5, r6, r7) := by first | (rw [hji26] at H; exact H) | (simp only [hji26] at H ⊢; exact H)
         (try rw [hji26] at c21b0)
         have hji26w : (IntKind.i64.wrap (x1001_1 + 1)) = ji26 := (i64_w _).trans hji26
         replace H := iD H
         rcases H with ⟨c27b0, H⟩ | ⟨c27b0, H⟩
         ·replace H := Option.bind_eq_some_iff.mp H
          obtain ⟨t112, A290, H⟩ := H
          (try dsimp -simprocs only at H)
          have A29 := Aside0.mk A290
          clear A290
          have H' := Aside0.mk H
          clear H
          obtain ⟨hcz30_0, hcz30_1, hfz30_0, hfz30_1⟩ := cellsI HI0.out
          have p24 : 0 ≤ (x1001_1 : Int) := qD
          have q24 : x1001_1 < (x1000_1.size : Int) := qD
          have hx24 := bt_at x1000_1 x1001_1
          replace p24 := eq_true p24
          replace q24 := eq_true q24
          have p28 : 0 ≤ ((ji26) : Int) := qD
          have q28 : (ji26) < (x1000_1.size : Int) := qD
          have hx28 := bt_at x1000_1 (ji26)
          replace p28 := eq_true p28
          replace q28 := eq_true q28
          go_wp2_with (first | (go_at_call 102; (with_reducible refine (tok_small.calls (bt x1000_1 (ji26)) t112 _ A29.out).mono ?_); rintro e w' ⟨rfl, ⟨nd, rfl⟩⟩; (try exact qW)))
          repeat (go_quiet (first | (go_at_call 102; (with_reducible refine (tok_small.calls (bt x1000_1 (ji26)) t112 _ A29.out).mono ?_); rintro e w' ⟨rfl, ⟨nd, rfl⟩⟩; (try exact qW))); try go_wp2_with (first | (go_at_call 102; (with_reducible refine (tok_small.calls (bt x1000_1 (ji26)) t112 _ A29.out).mono ?_); rintro e w' ⟨rfl, ⟨nd, rfl⟩⟩; (try exact qW))))
          go_meet
          case rel => exact ⟨_, (t112), (by first | rfl | (simp; done) | (simp [*]; done)), H', ⟨by have := HK1.out; first | omega | exact Nat.le_refl _⟩, ⟨qK⟩, ⟨qK⟩, ⟨qI⟩, ⟨qH⟩, ⟨qB⟩⟩
         ·exact absurd H (by simp)
        ·rw [if_neg c25] at H
         have c25b0 := beq_eq_false_iff_ne.mpr c25
         have c25b1 := bne_iff_ne.mpr c25
         have H' := Aside0.mk H
         clear H
         obtain ⟨hcz31_0, hcz31_1, hfz31_0, hfz31_1⟩ := cellsI HI0.out
         have p24 : 0 ≤ (x1001_1 : Int) := qD
         have q24 : x1001_1 < (x1000_1.size : Int) := qD
         have hx24 := bt_at x1000_1 x1001_1
         replace p24 := eq_true p24
         replace q24 := eq_true q24
         go_wp2
         repeat (go_quiet (fail); try go_wp2)
         go_meet
         case rel => exact ⟨_, (false), (by first | rfl | (simp; done) | (simp [*]; done)), H', ⟨by have := HK1.out; first | omega | exact Nat.le_refl _⟩, ⟨qK⟩, ⟨qK⟩, ⟨qI⟩, ⟨qH⟩, ⟨qB⟩⟩
       ·rw [if_neg c23] at H
        exact absurd H (by simp)
      ·exact absurd H (by simp)
     ·(first | rw [c21b0] | (simp only [i64_w, i32_w]; rw [c21b0]) | skip)
      have H' := Aside0.mk H
      clear H
      obtain ⟨hcz32_0, hcz32_1, hfz32_0, hfz32_1⟩ := cellsI HI0.out
      go_wp2
      repeat (go_quiet (fail); try go_wp2)
      go_meet
      case rel => exact ⟨_, (false), (by first | rfl | (simp; done) | (simp [*]; done)), H', ⟨by have := HK1.out; first | omega | exact Nat.le_refl _⟩, ⟨qK⟩, ⟨qK⟩, ⟨qI⟩, ⟨qH⟩, ⟨qB⟩⟩
    case rest =>
     clear HC20
     try clear c1
     try clear c2
     try clear p2 p2
     try clear q2
     try clear hx2
     try clear c3
     try clear c3b0
     try clear c3b1
     try clear p6
     try clear c8
     try clear c9
     try clear c10
     try clear c11
     try clear c17
     try clear c18
     try clear c21
     try clear c21b0
     try clear c22
     try clear c22b0
     try clear c23
     try clear c23b0
     try clear p24 p24
     try clear q24 q24
     try clear hx24
     try clear c25
     try clear c25b0
     try clear c25b1
     try clear c27
     try clear c27b0
     try clear p28 p28
     try clear q28 q28
     try clear hx28
     try clear hcz10_0 hcz10_1 hcz10_2 hcz10_3 hfz10_0 hfz10_1 hfz10_2 hfz10_3
     try clear hcz12_0 hcz12_1 hcz12_2 hcz12_3 hfz12_0 hfz12_1 hfz12_2 hfz12_3
     try clear hcz15_0 hcz15_1 hfz15_0 hfz15_1
     try clear hcz19_0 hcz19_1 hcz19_2 hcz19_3 hfz19_0 hfz19_1 hfz19_2 hfz19_3
     try clear hcz30_0 hcz30_1 hfz30_0 hfz30_1
     try clear hcz31_0 hcz31_1 hfz31_0 hfz31_1
     try clear hcz32_0 hcz32_1 hfz32_0 hfz32_1
     try clear hcz6_0 hcz6_1 hfz6_0 hfz6_1
     obtain ⟨kq, x55_19, rfl, HA, HJ19, BK107, BK111, HI0, HK, HB⟩ := hcut
     cases kq with
     | zero => exact absurd HA.out (by simp [tok_reader_path.j1])
     | succ kj19 =>
      have H := HA.out
      clear HA
      simp only [tok_reader_path.j1] at H
      by_cases c33 : x55_19 = true
      ·subst c33
       rw [if_pos rfl] at H
       replace H := Option.bind_eq_some_iff.mp H
       obtain ⟨⟨t113, t114, t115⟩, A340, H⟩ := H
       (try dsimp -simprocs only at H)
       have A34 := Aside0.mk A340
       clear A340
       by_cases c35 : 1 + t113.size ≤ 9223372036854775807
       ·rw [if_pos c35] at H
        have c35b0 := eq_true c35
        have c35b1 := decide_eq_true c35
        try have c35b2 : (9223372036854775807 < 1 + t113.size) = False := eq_false (Nat.not_lt.2 c35)
        by_cases c36 : x112001_1.size + ((⟨#[46]⟩ : ByteArray) ++ t113).size ≤ 9223372036854775807
        ·rw [if_pos c36] at H
         have c36b0 := eq_true c36
         have c36b1 := decide_eq_true c36
         try have c36b2 : (9223372036854775807 < x112001_1.size + ((⟨#[46]⟩ : ByteArray) ++ t113).size) = False := eq_false (Nat.not_lt.2 c36)
         by_cases c37 : (t113.size : Int) > 16
         ·rw [if_pos c37] at H
          have c37b0 := decide_eq_true c37
          have c37b1 : decide (16 < t113.size) = true := decide_eq_true (by omega)
          clear c37
          simp only [Option.some.injEq, Prod.mk.injEq] at H
          obtain ⟨rfl, rfl, rfl, rfl, rfl, rfl, rfl⟩ := H
          obtain ⟨hcz38_0, hcz38_1, hfz38_0, hfz38_1⟩ := cellsI HI0.out
          have hnb39 := NB111_107.out
          have hnc39 := NB107_111.out
          have hnb40 := NB111_0.out
          have hnc40 := NB0_111.out
          obtain ⟨hcz41_0, hcz41_1, hcz41_2, hcz41_3, hfz41_0, hfz41_1, hfz41_2, hfz41_3⟩ := cells4 BK111.out
          go_wp2_with (first | (go_at_call 132; (with_reducible refine (tok_reader_word.calls kj19 g x1000_1 (wrap64 (x1001_1 + 1)) t113 t114 t115 w0 _ ?side1 ?side2 A34.out).mono ?_); (case side1 => exact qI); (case side2 => exact qB); rintro e w42 ⟨rfl, hi, hb, hk⟩; replace BK107 := kk gb107 hk NB107_0; replace BK111 := kkp gb111 (.cells #[.int .i64 2, .string x112001_1, .int .i64 0, .int .i64 t110] 32 (0, 0)) hk NB111_0; replace HI0 := Aside0.mk (hi); replace HK := Aside0.mk (KeepBut.trans (w := w) qH hk (.inl rfl)); replace HB := Aside0.mk (hb); (try clear hb); (try clear hk); (try clear hi); obtain ⟨hcz43_0, hcz43_1, hcz43_2, hcz43_3, hfz43_0, hfz43_1, hfz43_2, hfz43_3⟩ := cells4 BK111.out; have hnb44 := NB107_0.out; have hnc44 := NB0_107.out; obtain ⟨hcz45_0, hcz45_1, hcz45_2, hcz45_3, hfz45_0, hfz45_1, hfz45_2, hfz45_3⟩ := cells4 BK107.out))
          repeat (go_quiet (first | (go_at_call 132; (with_reducible refine (tok_reader_word.calls kj19 g x1000_1 (wrap64 (x1001_1 + 1)) t113 t114 t115 w0 _ ?side1 ?side2 A34.out).mono ?_); (case side1 => exact qI); (case side2 => exact qB); rintro e w42 ⟨rfl, hi, hb, hk⟩; replace BK107 := kk gb107 hk NB107_0; replace BK111 := kkp gb111 (.cells #[.int .i64 2, .string x112001_1, .int .i64 0, .int .i64 t110] 32 (0, 0)) hk NB111_0; replace HI0 := Aside0.mk (hi); replace HK := Aside0.mk (KeepBut.trans (w := w) qH hk (.inl rfl)); replace HB := Aside0.mk (hb); (try clear hb); (try clear hk); (try clear hi); obtain ⟨hcz43_0, hcz43_1, hcz43_2, hcz43_3, hfz43_0, hfz43_1, hfz43_2, hfz43_3⟩ := cells4 BK111.out; have hnb44 := NB107_0.out; have hnc44 := NB0_107.out; obtain ⟨hcz45_0, hcz45_1, hcz45_2, hcz45_3, hfz45_0, hfz45_1, hfz45_2, hfz45_3⟩ := cells4 BK107.out)); try go_wp2_with (first | (go_at_call 132; (with_reducible refine (tok_reader_word.calls kj19 g x1000_1 (wrap64 (x1001_1 + 1)) t113 t114 t115 w0 _ ?side1 ?side2 A34.out).mono ?_); (case side1 => exact qI); (case side2 => exact qB); rintro e w42 ⟨rfl, hi, hb, hk⟩; replace BK107 := kk gb107 hk NB107_0; replace BK111 := kkp gb111 (.cells #[.int .i64 2, .string x112001_1, .int .i64 0, .int .i64 t110] 32 (0, 0)) hk NB111_0; replace HI0 := Aside0.mk (hi); replace HK := Aside0.mk (KeepBut.trans (w := w) qH hk (.inl rfl)); replace HB := Aside0.mk (hb); (try clear hb); (try clear hk); (try clear hi); obtain ⟨hcz43_0, hcz43_1, hcz43_2, hcz43_3, hfz43_0, hfz43_1, hfz43_2, hfz43_3⟩ := cells4 BK111.out; have hnb44 := NB107_0.out; have hnc44 := NB0_107.out; obtain ⟨hcz45_0, hcz45_1, hcz45_2, hcz45_3, hfz45_0, hfz45_1, hfz45_2, hfz45_3⟩ := cells4 BK107.out)))
          refine bodyPost_ret (results_ct rfl _ _ gb107 32 #[.int .i64 2, .string (x112001_1 ++ ((⟨#[46]⟩ : ByteArray) ++ t113)), .int .i64 0, .int .i64 t110] (0, 0) _ rfl qP Tryd.underlying32 rfl (by kernel_rfl)) rfl ?_
          exact ⟨qR, qI, qB, qH⟩
         ·rw [if_neg c37] at H
          have c37b0 := decide_eq_false c37
          have c37b1 : decide (16 < t113.size) = false := decide_eq_false (by omega)
          clear c37
          have H' := Aside0.mk H
          clear H
          obtain ⟨hcz46_0, hcz46_1, hfz46_0, hfz46_1⟩ := cellsI HI0.out
          have hnb47 := NB111_107.out
          have hnc47 := NB107_111.out
          have hnb48 := NB111_0.out
          have hnc48 := NB0_111.out
          obtain ⟨hcz49_0, hcz49_1, hcz49_2, hcz49_3, hfz49_0, hfz49_1, hfz49_2, hfz49_3⟩ := cells4 BK111.out
          go_wp2_with (first | (go_at_call 132; (with_reducible refine (tok_reader_word.calls kj19 g x1000_1 (wrap64 (x1001_1 + 1)) t113 t114 t115 w0 _ ?side1 ?side2 A34.out).mono ?_); (case side1 => exact qI); (case side2 => exact qB); rintro e w50 ⟨rfl, hi, hb, hk⟩; replace BK107 := kk gb107 hk NB107_0; replace BK111 := kkp gb111 (.cells #[.int .i64 2, .string x112001_1, .int .i64 0, .int .i64 t110] 32 (0, 0)) hk NB111_0; replace HI0 := Aside0.mk (hi); replace HK := Aside0.mk (KeepBut.trans (w := w) qH hk (.inl rfl)); replace HB := Aside0.mk (hb); (try clear hb); (try clear hk); (try clear hi); obtain ⟨hcz51_0, hcz51_1, hcz51_2, hcz51_3, hfz51_0, hfz51_1, hfz51_2, hfz51_3⟩ := cells4 BK111.out))
          repeat (go_quiet (first | (go_at_call 132; (with_reducible refine (tok_reader_word.calls kj19 g x1000_1 (wrap64 (x1001_1 + 1)) t113 t114 t115 w0 _ ?side1 ?side2 A34.out).mono ?_); (case side1 => exact qI); (case side2 => exact qB); rintro e w50 ⟨rfl, hi, hb, hk⟩; replace BK107 := kk gb107 hk NB107_0; replace BK111 := kkp gb111 (.cells #[.int .i64 2, .string x112001_1, .int .i64 0, .int .i64 t110] 32 (0, 0)) hk NB111_0; replace HI0 := Aside0.mk (hi); replace HK := Aside0.mk (KeepBut.trans (w := w) qH hk (.inl rfl)); replace HB := Aside0.mk (hb); (try clear hb); (try clear hk); (try clear hi); obtain ⟨hcz51_0, hcz51_1, hcz51_2, hcz51_3, hfz51_0, hfz51_1, hfz51_2, hfz51_3⟩ := cells4 BK111.out)); try go_wp2_with (first | (go_at_call 132; (with_reducible refine (tok_reader_word.calls kj19 g x1000_1 (wrap64 (x1001_1 + 1)) t113 t114 t115 w0 _ ?side1 ?side2 A34.out).mono ?_); (case side1 => exact qI); (case side2 => exact qB); rintro e w50 ⟨rfl, hi, hb, hk⟩; replace BK107 := kk gb107 hk NB107_0; replace BK111 := kkp gb111 (.cells #[.int .i64 2, .string x112001_1, .int .i64 0, .int .i64 t110] 32 (0, 0)) hk NB111_0; replace HI0 := Aside0.mk (hi); replace HK := Aside0.mk (KeepBut.trans (w := w) qH hk (.inl rfl)); replace HB := Aside0.mk (hb); (try clear hb); (try clear hk); (try clear hi); obtain ⟨hcz51_0, hcz51_1, hcz51_2, hcz51_3, hfz51_0, hfz51_1, hfz51_2, hfz51_3⟩ := cells4 BK111.out)))
          go_roundg kj19
          case measure => have := HK1.out; have := HJ19.out; omega
          case rel => exact ⟨(t114), (t115), (x108000_1), (x108001_1), (x108002_1), (x108003_1), (2), (x112001_1 ++ ((⟨#[46]⟩ : ByteArray) ++ t113)), H', ⟨by have := HK1.out; have := HJ19.out; omega⟩, ⟨qK⟩, ⟨qP⟩, ⟨qI⟩, ⟨qH⟩, ⟨qB⟩⟩
        ·rw [if_neg c36] at H
         exact absurd H (by simp)
       ·rw [if_neg c35] at H
        exact absurd H (by simp)
      ·replace c33 := Bool.eq_false_iff.mpr c33
       subst c33
       rw [if_neg (show ¬ (false = true) by decide)] at H
       by_cases c52 : (x112001_1.size : Int) > 32
       ·rw [if_pos c52] at H
        have c52b0 := decide_eq_true c52
        have c52b1 : decide (32 < x112001_1.size) = true := decide_eq_true (by omega)
        clear c52
        simp only [Option.some.injEq, Prod.mk.injEq] at H
        obtain ⟨rfl, rfl, rfl, rfl, rfl, rfl, rfl⟩ := H
        have hnb53 := NB111_107.out
        have hnc53 := NB107_111.out
        have hnb54 := NB111_0.out
        have hnc54 := NB0_111.out
        obtain ⟨hcz55_0, hcz55_1, hcz55_2, hcz55_3, hfz55_0, hfz55_1, hfz55_2, hfz55_3⟩ := cells4 BK111.out
        have hnb56 := NB107_0.out
        have hnc56 := NB0_107.out
        obtain ⟨hcz57_0, hcz57_1, hcz57_2, hcz57_3, hfz57_0, hfz57_1, hfz57_2, hfz57_3⟩ := cells4 BK107.out
        go_wp2
        repeat (go_quiet (fail); try go_wp2)
        refine bodyPost_ret (results_ct rfl _ _ gb107 32 #[.int .i64 x112000_1, .string x112001_1, .int .i64 0, .int .i64 t110] (0, 0) _ rfl qP Tryd.underlying32 rfl (by kernel_rfl)) rfl ?_
        exact ⟨qR, qI, qB, qH⟩
       ·rw [if_neg c52] at H
        have c52b0 := decide_eq_false c52
        have c52b1 : decide (32 < x112001_1.size) = false := decide_eq_false (by omega)
        clear c52
        simp only [Option.some.injEq, Prod.mk.injEq] at H
        obtain ⟨rfl, rfl, rfl, rfl, rfl, rfl, rfl⟩ := H
        have hnb58 := NB111_107.out
        have hnc58 := NB107_111.out
        have hnb59 := NB111_0.out
        have hnc59 := NB0_111.out
        obtain ⟨hcz60_0, hcz60_1, hcz60_2, hcz60_3, hfz60_0, hfz60_1, hfz60_2, hfz60_3⟩ := cells4 BK111.out
        have hnb61 := NB107_0.out
        have hnc61 := NB0_107.out
        obtain ⟨hcz62_0, hcz62_1, hcz62_2, hcz62_3, hfz62_0, hfz62_1, hfz62_2, hfz62_3⟩ := cells4 BK107.out
        go_wp2
        repeat (go_quiet (fail); try go_wp2)
        refine bodyPost_ret (results_ct rfl _ _ gb107 32 #[.int .i64 x112000_1, .string x112001_1, .int .i64 0, .int .i64 t110] (0, 0) _ rfl qP Tryd.underlying32 rfl (by kernel_rfl)) rfl ?_
        exact ⟨qR, qI, qB, qH⟩
end Go.Proofs.YtbngfhlciebeeaaDoor.L
