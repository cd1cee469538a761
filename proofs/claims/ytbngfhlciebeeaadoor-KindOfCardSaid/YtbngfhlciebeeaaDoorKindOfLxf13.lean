/- Printed and hand-written steps towards the row (KindOf), those that it reaches. -/
import Derived.Test.YtbngfhlciebeeaaDoorKindOfG4
import Derived.Test.YtbngfhlciebeeaaDoorKindOfG5
import Derived.Test.YtbngfhlciebeeaaDoorKindOfG28
import Derived.Test.YtbngfhlciebeeaaDoorKindOfLxf54
import Derived.Test.YtbngfhlciebeeaaDoorKindOfLxf51
import Derived.Test.YtbngfhlciebeeaaDoorKindOfG38
import Derived.Test.YtbngfhlciebeeaaDoorKindOfLxf55
import Derived.Test.YtbngfhlciebeeaaDoorKindOfG35
namespace Go.Proofs.YtbngfhlciebeeaaDoor.L
open Go.RowKit Go.Proofs.YtbngfhlciebeeaaDoorW.PrintWords Go.Proofs.YtbngfhlciebeeaaDoorW.PrintLast Go.Proofs.YtbngfhlciebeeaaDoorW.PrintMore
attribute [local go_sem] max2_int min2_int max_two min_two max_three min_three max_four min_four   -- for this text's walks alone
set_option linter.unusedVariables false
set_option linter.unusedSimpArgs false
mutual
def whirligiglaw04_KindOf.j0 : Nat → ByteArray → Int → List (S151) → Bool → List (S118) → List ByteArray → Option (Bool)
 | 0, _, _, _, _, _, _ => none
 | k + 1, x0, x2, x7, x37, x892000, x892001 => if x37 = true then (some true) else ((expr_Read.f k x0).bind fun bt897 => (if bt897.2 = 0 then ((kind_Of.f k bt897.1 x892000 x892001).bind fun bt901 => ((whirligiglaw04_refs.f k bt897.1).bind fun t903 => ((whirligigref04_Of.f k t903 (wrap64 ((bt897.1.length : Int) - 1)) x7 x892001).bind fun bt906 => (if bt901.2 = bt906.2.1 then (whirligiglaw04_KindOf.j1 k x2 bt897.1 bt901.2 bt906.1 (bt901.1 != bt906.1) x892000 x892001) else (whirligiglaw04_KindOf.j1 k x2 bt897.1 bt901.2 bt906.1 true x892000 x892001))))) else (some true)))
def whirligiglaw04_KindOf.j1 : Nat → Int → List (S156) → Int → Int → Bool → List (S118) → List ByteArray → Option (Bool)
 | 0, _, _, _, _, _, _, _ => none
 | k + 1, x2, x9, x12, x13, x71, x892000, x892001 => if x71 = true then (some false) else ((kind_Is.f k x9 x892000 x892001 x2).bind fun t909 => (if x12 = 0 then (if ((t909 == 0) == (x2 == x13)) = true then (if t909 = 0 then (some true) else (some (t909 == 20))) else (some false)) else (some (t909 == x12))))
end
def whirligiglaw04_KindOf.f (k : Nat) (a0 : ByteArray) (l1_0 : List (S118)) (l1_1 : List ByteArray) (a2 : Int) : Option (Bool) := (whirligiglaw04_anchor.f k).bind fun t892 => (if t892 = true then ((whirligiglaw04_vars.f k l1_0).bind fun bt893 => (if bt893.2 = true then (if (a0.size : Int) > 600 then (whirligiglaw04_KindOf.j0 k a0 a2 bt893.1 true l1_0 l1_1) else (whirligiglaw04_KindOf.j0 k a0 a2 bt893.1 (decide ((l1_1.length : Int) > 100)) l1_0 l1_1)) else (whirligiglaw04_KindOf.j0 k a0 a2 bt893.1 true l1_0 l1_1))) else (some false))
def whirligiglaw04_KindOf.T10 : Bool × List (List Nat × List Nat) := (true, [([], []), ([0], [0]), ([], []), ([2], [2]), ([3], [3]), ([], []), ([], []), ([6], [6]), ([1, 4, 5, 7, 1], [1, 4, 5, 7]), ([8], [8]), ([9], [9]), ([9], [9]), ([9], [9]), ([10, 8, 0, 1, 2, 3, 4, 5, 6, 7, 8, 9, 10], [10]), ([11, 13, 0, 1, 2, 3, 4, 5, 6, 7, 8, 9, 10, 11, 13], [11]), ([12, 14, 0, 1, 2, 3, 4, 5, 6, 7, 8, 9, 10, 11, 12, 13, 14], [12])])
def whirligiglaw04_KindOf.B10 : List Nat := [0, 1, 0, 4, 12, 0, 0, 64, 255, 511, 1023, 1023, 1023, 2047, 12287, 32767]
theorem whirligiglaw04_KindOf.tab10 : rtab .any (opsOf Tryd.f13 10) = whirligiglaw04_KindOf.T10 := by kernel_rfl
theorem whirligiglaw04_KindOf.bits10 : waitsOk whirligiglaw04_KindOf.T10.2 whirligiglaw04_KindOf.B10 = true := by kernel_rfl
set_option maxHeartbeats 8000000 in
set_option maxRecDepth 100000 in
theorem whirligiglaw04_KindOf.calls (k : Nat) (a0 : ByteArray) (A1_0 : Option Addr) (c1_0 : Nat) (l1_0 : List (S118)) (A1_1 : Option Addr) (c1_1 : Nat) (l1_1 : List ByteArray) (a2 : Int) (r : Bool) (w : World) (hr1_0 : Kd.C k118 w A1_0 l1_0.length l1_0) (hc1_0 : l1_0.length ≤ c1_0) (hr1_1 : Kd.C Kd.string w A1_1 l1_1.length l1_1) (hc1_1 : l1_1.length ≤ c1_1) (hL : Laid w) (h : whirligiglaw04_KindOf.f k a0 l1_0 l1_1 a2 = some r) :
  Calls Tryd.prog 13 #[.string a0, .agg #[.slice A1_0 l1_0.length c1_0, .slice A1_1 l1_1.length c1_1], .int .i64 a2] w fun e w' => e = .returned (.bool r) ∧ Below w.heap.size w w' := by
 have hu78 := Tryd.underlying78
 have HR1_0 := Aside0.mk hr1_0
 have HC1_0 := Aside0.mk hc1_0
 clear hr1_0 hc1_0
 have HR1_1 := Aside0.mk hr1_1
 have HC1_1 := Aside0.mk hc1_1
 clear hr1_1 hc1_1
 have HB := Aside0.mk (Below.refl w.heap.size w)
 have HLD := Aside0.mk hL
 clear hL
 have H : ((whirligiglaw04_anchor.f k).bind fun t892 => (if t892 = true then ((whirligiglaw04_vars.f k l1_0).bind fun bt893 => (if bt893.2 = true then (if (a0.size : Int) > 600 then (whirligiglaw04_KindOf.j0 k a0 a2 bt893.1 true l1_0 l1_1) else (whirligiglaw04_KindOf.j0 k a0 a2 bt893.1 (decide ((l1_1.length : Int) > 100)) l1_0 l1_1)) else (whirligiglaw04_KindOf.j0 k a0 a2 bt893.1 true l1_0 l1_1))) else (some false))) = some r := h
 clear h
 replace H := Option.bind_eq_some_iff.mp H
 obtain ⟨t892, A40, H⟩ := H
 (try dsimp -simprocs only at H)
 have A4 := Aside0.mk A40
 clear A40
 by_cases c5 : t892 = true
 ·subst c5
  rw [if_pos rfl] at H
  replace H := Option.bind_eq_some_iff.mp H
  obtain ⟨⟨t893, t894⟩, A60, H⟩ := H
  (try dsimp -simprocs only at H)
  have A6 := Aside0.mk A60
  clear A60
  have HC7 := Aside0.mk H
  clear H
  go_enter Tryd.func13, Tryd.ntmps13
  go_upto_region 4 with (first | ((with_reducible refine gate_dst (N := 4) rfl ?_); (try (refine gate_guard (by rfl) ?_; dsimp only)); refine box_event ?hg (N := 4) ?hd (cs := #[.slice A1_0 l1_0.length c1_0, .slice A1_1 l1_1.length c1_1]) (t := 78) ?hr ?_; (case hd => rfl); (case hg => rfl); (case hr => first | (go_simp; done) | (go_simp; rfl)); intro gb891 hg w8 hbox hb; have BK891 := Aside0.mk (hbox); have GW891 := geS hg; have GE891 := geS hg; replace HB := bst hb; clear hb hbox hg) | ((with_reducible refine gc 51 rfl ?_); refine gl (some 17) #[] Tryd.func51 ?_; (with_reducible refine (whirligiglaw04_anchor.calls k  true _ ?side1 A4.out).mono ?_); (case side1 => exact Laid.below HLD.out qB); rintro e w9 ⟨rfl, hb⟩; refine ⟨_, rfl, ?_⟩; replace BK891 := kb gb891 hb; replace HB := bst hb; (try clear hb); obtain ⟨hcz10_0, hcz10_1, hfz10_0, hfz10_1⟩ := cells2 BK891.out) | ((with_reducible refine gc 52 rfl ?_); refine gl (some 22) #[.slice A1_0 l1_0.length c1_0] Tryd.func52 ?_; (with_reducible refine (whirligiglaw04_vars.calls k _ _ l1_0 t893 t894 _ ?side1 ?side2 A6.out).mono ?_); (case side1 => exact qC); (case side2 => exact HC1_0.out); rintro e w11 ⟨v895, rfl, ho0, hb⟩; refine ⟨_, rfl, ?_⟩; have HO896 := Aside0.mk (Kd.R_lower ho0 (below_size qB)); replace BK891 := kb gb891 hb; replace HB := bst hb; (try clear hb); (try clear ho0)))
  (try simp only [Act.put, List.setIfInBounds_toArray, List.set_cons_zero, List.set_cons_succ])
  go_cut [37] (fun v37 wc => ∃ (kq : Nat) (x37_6 : Bool), v37 = .bool x37_6 ∧ Aside0 (whirligiglaw04_KindOf.j0 kq a0 a2 t893 x37_6 l1_0 l1_1 = some r) ∧ Aside0 (kq ≤ k) ∧ Aside0 (Kd.R k151 151 wc w.heap.size (fun _ => True) v895 t893) ∧ Aside0 (wc.heap[gb891]? = some (.cells #[(.slice A1_0 l1_0.length c1_0), (.slice A1_1 l1_1.length c1_1)] 78 (0, 0))) ∧ Aside0 (Below w.heap.size w wc))
  case first =>
   have H := HC7.out
   clear HC7
   by_cases c12 : t894 = true
   ·subst c12
    rw [if_pos rfl] at H
    by_cases c13 : (a0.size : Int) > 600
    ·rw [if_pos c13] at H
     have c13b0 := decide_eq_true c13
     have c13b1 : decide (600 < a0.size) = true := decide_eq_true (by omega)
     clear c13
     (first | rw [c13b0] | (simp only [i64_w, i32_w]; rw [c13b0]) | skip)
     have H' := Aside0.mk H
     clear H
     go_wp2
     go_meet
     case rel => exact ⟨_, (true), (by first | rfl | (simp; done) | (simp [*]; done)), H', ⟨by first | omega | exact Nat.le_refl _⟩, ⟨by (with_reducible repeat (first | apply Kd.R_alloc | apply Kd.R_drewN | apply Kd.R_drew)); exact HO896.out⟩, ⟨qK⟩, ⟨qB⟩⟩
    ·rw [if_neg c13] at H
     have c13b0 := decide_eq_false c13
     have c13b1 : decide (600 < a0.size) = false := decide_eq_false (by omega)
     clear c13
     (first | rw [c13b0] | (simp only [i64_w, i32_w]; rw [c13b0]) | skip)
     have H' := Aside0.mk H
     clear H
     obtain ⟨hcz14_0, hcz14_1, hfz14_0, hfz14_1⟩ := cells2 BK891.out
     go_wp2
     go_meet
     case rel => exact ⟨_, (decide ((l1_1.length : Int) > 100)), (by first | rfl | (simp; done) | (simp [*]; done)), H', ⟨by first | omega | exact Nat.le_refl _⟩, ⟨by (with_reducible repeat (first | apply Kd.R_alloc | apply Kd.R_drewN | apply Kd.R_drew)); exact HO896.out⟩, ⟨qK⟩, ⟨qB⟩⟩
   ·replace c12 := Bool.eq_false_iff.mpr c12
    subst c12
    rw [if_neg (show ¬ (false = true) by decide)] at H
    have H' := Aside0.mk H
    clear H
    go_wp2
    go_meet
    case rel => exact ⟨_, (true), (by first | rfl | (simp; done) | (simp [*]; done)), H', ⟨by first | omega | exact Nat.le_refl _⟩, ⟨by (with_reducible repeat (first | apply Kd.R_alloc | apply Kd.R_drewN | apply Kd.R_drew)); exact HO896.out⟩, ⟨qK⟩, ⟨qB⟩⟩
  case rest =>
   clear HC7
   try clear c1
   try clear p2
   try clear c5
   try clear c12
   try clear c13
   try clear c13b0
   try clear c13b1
   try clear hcz10_0 hcz10_1 hfz10_0 hfz10_1
   try clear hcz14_0 hcz14_1 hfz14_0 hfz14_1
   obtain ⟨kq, x37_6, rfl, HA, HJ6, HO_7, BK891, HB⟩ := hcut
   cases kq with
   | zero => exact absurd HA.out (by simp [whirligiglaw04_KindOf.j0])
   | succ kj6 =>
    have H := HA.out
    clear HA
    simp only [whirligiglaw04_KindOf.j0] at H
    by_cases c15 : x37_6 = true
    ·subst c15
     rw [if_pos rfl] at H
     obtain rfl := Option.some.inj H
     go_wp2
     go_ret
     exact ⟨qR, qB⟩
    ·replace c15 := Bool.eq_false_iff.mpr c15
     subst c15
     rw [if_neg (show ¬ (false = true) by decide)] at H
     replace H := Option.bind_eq_some_iff.mp H
     obtain ⟨⟨t897, t898⟩, A160, H⟩ := H
     (try dsimp -simprocs only at H)
     have A16 := Aside0.mk A160
     clear A160
     by_cases c17 : t898 = 0
     ·rw [if_pos c17] at H
      have c17b0 := beq_iff_eq.mpr c17
      have c17b1 := bne_eq_false_iff_eq.mpr c17
      clear c17
      replace H := Option.bind_eq_some_iff.mp H
      obtain ⟨⟨t901, t902⟩, A180, H⟩ := H
      (try dsimp -simprocs only at H)
      have A18 := Aside0.mk A180
      clear A180
      replace H := Option.bind_eq_some_iff.mp H
      obtain ⟨t903, A190, H⟩ := H
      (try dsimp -simprocs only at H)
      have A19 := Aside0.mk A190
      clear A190
      replace H := Option.bind_eq_some_iff.mp H
      obtain ⟨⟨t906, t907, t908⟩, A200, H⟩ := H
      (try dsimp -simprocs only at H)
      have A20 := Aside0.mk A200
      clear A200
      have HC21 := Aside0.mk H
      clear H
      try go_wp2_with (first | ((with_reducible refine gc 53 rfl ?_); refine gl (some 40) #[.string a0] Tryd.func53 ?_; (with_reducible refine (expr_Read.calls kj6 a0 t897 t898 _ ?side1 A16.out).mono ?_); (case side1 => exact Laid.below HLD.out qB); rintro e w22 ⟨v899, rfl, ho0, hb⟩; refine ⟨_, rfl, ?_⟩; have HO900 := Aside0.mk (Kd.R_lower ho0 (below_size qB)); replace BK891 := kb gb891 hb; replace HO_7 := rb HO_7 hb; replace HB := bst hb; (try clear hb); (try clear ho0); obtain ⟨hcz23_0, hcz23_1, hfz23_0, hfz23_1⟩ := cells2 BK891.out; obtain ⟨Ao24, co24, eo24⟩ := Kd.R_slice HO900.out; subst eo24) | ((with_reducible refine gc 54 rfl ?_); refine gl (some 48) #[.slice Ao24 t897.length co24, .agg #[.slice A1_0 l1_0.length c1_0, .slice A1_1 l1_1.length c1_1]] Tryd.func54 ?_; (with_reducible refine (kind_Of.calls kj6 _ _ t897 _ _ l1_0 _ _ l1_1 t901 t902 _ ?side1 ?side2 ?side3 ?side4 ?side5 ?side6 ?side7 A18.out).mono ?_); (case side1 => exact cr HO900); (case side2 => exact (Kd.R_reads' HO900.out).2.1); (case side3 => exact qC); (case side4 => exact HC1_0.out); (case side5 => exact qC); (case side6 => exact HC1_1.out); (case side7 => exact Laid.below HLD.out qB); rintro e w25 ⟨rfl, hb⟩; refine ⟨_, rfl, ?_⟩; replace BK891 := kb gb891 hb; replace HO_7 := rb HO_7 hb; replace HO900 := rb HO900 hb; replace HB := bst hb; (try clear hb)))
      replace BK891 := Aside0.mk (blk_drew BK891.out)
      replace HO_7 := Aside0.mk (Kd.R_drew HO_7.out)
      replace HO900 := Aside0.mk (Kd.R_drew HO900.out)
      replace HB := Aside0.mk (below_drew1 HB.out)
      refine start_ (n := 16) (S := fun w' => w'.cell? ⟨gb891, 0, none⟩ = some (.slice A1_0 l1_0.length c1_0) ∧ w'.cell? ⟨gb891, 1, none⟩ = some (.slice A1_1 l1_1.length c1_1)) (ds := []) _ (by kernel_rfl) rfl (fls 16) ⟨(blk_cell BK891.out 0).trans rfl, (blk_cell BK891.out 1).trans rfl⟩ (fun hHeld => ?_); refine with_tabW whirligiglaw04_KindOf.tab10 whirligiglaw04_KindOf.bits10 (fun HT_ HW_ => ?_)
      generalize w25.drew = w26 at HO_7 HO900 BK891 HB hHeld ⊢
      refine pu 0 52 ?_; refine pu 2 54 ?_
      refine pu 3 55 ?_; refine pu 4 56 ?_
      refine pu 5 57 ?_; refine pu 6 58 ?_; refine tk 7 59 ?_
      refine onx 1 53 (fun K hK => ?_)
      refine goes_ Tryd.func56 (by kernel_rfl) rfl #[.slice Ao24 t897.length co24] (by rfl) rfl rfl (by (try simp only [List.map_toArray, List.map_cons, List.map_nil]); first | done | rfl | (simp only [List.length_drop, List.length_take]; rfl)) ?_
      with_reducible refine (whirligiglaw04_refs.calls kj6 _ _ t897 t903 _ ?side1 ?side2 A19.out).mono ?_
      (case side1 => exact cr HO900)
      (case side2 => exact (Kd.R_reads' HO900.out).2.1)
      rintro e w27 ⟨v904, rfl, ho0, hb⟩
      refine ⟨_, rfl, ?_⟩
      have HO905 := Aside0.mk (Kd.R_lower ho0 (below_size qB))
      replace BK891 := kb gb891 hb
      replace HO_7 := rb HO_7 hb
      replace HO900 := rb HO900 hb
      replace HB := bst hb
      (try clear hb)
      (try clear hb2)
      (try clear hk)
      (try clear hi)
      (try clear ho0)
      obtain ⟨Ao28, co28, eo28⟩ := Kd.R_slice HO905.out
      (first | subst eo28 | (injection eo28 with f1_ f2_ f3_; have f4_ := f1_.symm; have f5_ := f3_.symm; clear f1_ f2_ f3_; subst f4_; subst f5_))
      obtain ⟨Ao29, co29, eo29⟩ := Kd.R_slice HO_7.out
      (first | subst eo29 | (injection eo29 with f1_ f2_ f3_; have f4_ := f1_.symm; have f5_ := f3_.symm; clear f1_ f2_ f3_; subst f4_; subst f5_))
      refine hK.out _ _ ⟨(blk_cell BK891.out 0).trans rfl, (blk_cell BK891.out 1).trans rfl⟩ (fun hHeld => ?_)
      clear hK K
      refine nm 53 ?_
      refine onx 8 60 (fun K hK => ?_)
      refine goes_ Tryd.func55 (by kernel_rfl) rfl #[.slice Ao28 t903.length co28, .int .i64 (wrap64 ((t897.length : Int) - 1)), .slice Ao29 t893.length co29, .slice A1_1 l1_1.length c1_1] (by rfl) rfl rfl (by (try simp only [List.map_toArray, List.map_cons, List.map_nil]); first | done | rfl | (simp only [List.length_drop, List.length_take]; rfl)) ?_
      with_reducible refine (whirligigref04_Of.calls kj6 _ _ t903 (wrap64 ((t897.length : Int) - 1)) _ _ t893 _ _ l1_1 t906 t907 t908 _ ?side1 ?side2 ?side3 ?side4 ?side5 ?side6 A20.out).mono ?_
      (case side1 => exact cr HO905)
      (case side2 => exact (Kd.R_reads' HO905.out).2.1)
      (case side3 => exact cr HO_7)
      (case side4 => exact (Kd.R_reads' HO_7.out).2.1)
      (case side5 => exact qC)
      (case side6 => exact HC1_1.out)
      rintro e w30 ⟨rfl, hb⟩
      refine ⟨_, rfl, ?_⟩
      replace BK891 := kb gb891 hb
      replace HO_7 := rb HO_7 hb
      replace HO900 := rb HO900 hb
      replace HO905 := rb HO905 hb
      replace HB := bst hb
      (try clear hb)
      (try clear hb2)
      (try clear hk)
      (try clear hi)
      refine hK.out _ _ ⟨(blk_cell BK891.out 0).trans rfl, (blk_cell BK891.out 1).trans rfl⟩ (fun hHeld => ?_)
      clear hK K
      refine nm 60 ?_
      refine pu 9 51 ?_; refine pu 10 61 ?_
      refine pu 11 62 ?_; refine pu 12 63 ?_
      refine pu 13 13 ?_; refine pu 14 14 ?_; refine pu 15 15 ?_
      refine done_ (done_of HT_.out (by kernel_rfl)) ?_
      go_upto_region 11 with (fail)
      go_cut [71] (fun v71 wc => ∃ (kq : Nat) (x71_20 : Bool), v71 = .bool x71_20 ∧ Aside0 (whirligiglaw04_KindOf.j1 kq a2 t897 t902 t906 x71_20 l1_0 l1_1 = some r) ∧ Aside0 (kq ≤ kj6) ∧ Aside0 (Kd.R k156 156 wc w.heap.size (fun _ => True) (.slice Ao24 t897.length co24) t897) ∧ Aside0 (wc.heap[gb891]? = some (.cells #[(.slice A1_0 l1_0.length c1_0), (.slice A1_1 l1_1.length c1_1)] 78 (0, 0))) ∧ Aside0 (Below w.heap.size w wc))
      case first =>
       have H := HC21.out
       clear HC21
       by_cases c31 : t902 = t907
       ·rw [if_pos c31] at H
        have c31b0 := beq_iff_eq.mpr c31
        have c31b1 := bne_eq_false_iff_eq.mpr c31
        clear c31
        (first | rw [c31b0] | (simp only [i64_w, i32_w]; rw [c31b0]) | skip)
        have H' := Aside0.mk H
        clear H
        go_wp2
        go_meet
        case rel => exact ⟨_, ((t901 != t906)), (by first | rfl | (simp; done) | (simp [*]; done)), H', ⟨by have := HJ6.out; first | omega | exact Nat.le_refl _⟩, ⟨by (with_reducible repeat (first | apply Kd.R_alloc | apply Kd.R_drewN | apply Kd.R_drew)); exact HO900.out⟩, ⟨qK⟩, ⟨qB⟩⟩
       ·rw [if_neg c31] at H
        have c31b0 := beq_eq_false_iff_ne.mpr c31
        have c31b1 := bne_iff_ne.mpr c31
        (first | rw [c31b0] | (simp only [i64_w, i32_w]; rw [c31b0]) | skip)
        have H' := Aside0.mk H
        clear H
        go_wp2
        go_meet
        case rel => exact ⟨_, (true), (by first | rfl | (simp; done) | (simp [*]; done)), H', ⟨by have := HJ6.out; first | omega | exact Nat.le_refl _⟩, ⟨by (with_reducible repeat (first | apply Kd.R_alloc | apply Kd.R_drewN | apply Kd.R_drew)); exact HO900.out⟩, ⟨qK⟩, ⟨qB⟩⟩
      case rest =>
       clear HC21
       try clear c1
       try clear p2 p2
       try clear c3
       try clear c5
       try clear p6
       try clear c12
       try clear c13
       try clear c13b0
       try clear c13b1
       try clear c15
       try clear c17
       try clear c17b0
       try clear c17b1
       try clear c31
       try clear c31b0
       try clear c31b1
       try clear hcz10_0 hcz10_1 hfz10_0 hfz10_1
       try clear hcz14_0 hcz14_1 hfz14_0 hfz14_1
       try clear hcz23_0 hcz23_1 hfz23_0 hfz23_1
       obtain ⟨kq, x71_20, rfl, HA, HJ20, HO_9, BK891, HB⟩ := hcut
       cases kq with
       | zero => exact absurd HA.out (by simp [whirligiglaw04_KindOf.j1])
       | succ kj20 =>
        have H := HA.out
        clear HA
        simp only [whirligiglaw04_KindOf.j1] at H
        by_cases c32 : x71_20 = true
        ·subst c32
         rw [if_pos rfl] at H
         obtain rfl := Option.some.inj H
         go_wp2
         go_ret
         exact ⟨qR, qB⟩
        ·replace c32 := Bool.eq_false_iff.mpr c32
         subst c32
         rw [if_neg (show ¬ (false = true) by decide)] at H
         replace H := Option.bind_eq_some_iff.mp H
         obtain ⟨t909, A330, H⟩ := H
         (try dsimp -simprocs only at H)
         have A33 := Aside0.mk A330
         clear A330
         by_cases c34 : t902 = 0
         ·rw [if_pos c34] at H
          have c34b0 := beq_iff_eq.mpr c34
          have c34b1 := bne_eq_false_iff_eq.mpr c34
          clear c34
          by_cases c35 : ((t909 == 0) == (a2 == t906)) = true
          ·rw [if_pos c35] at H
           have c35b0 : ((t909 == 0) == (a2 == t906)) = true := c35
           (try (have c35b1 : decide ((t909 == 0) = (a2 == t906)) = true := by simpa using c35))
           (try (have c35b2 : ((t909 == 0) == (a2 == t906)) = true := by simpa using c35))
           clear c35
           by_cases c36 : t909 = 0
           ·rw [if_pos c36] at H
            have c36b0 := beq_iff_eq.mpr c36
            have c36b1 := bne_eq_false_iff_eq.mpr c36
            have c36z : (a2 == t906) = true := by rw [c36b0] at c35b0; simpa using c35b0
            clear c36
            obtain rfl := Option.some.inj H
            obtain ⟨hcz37_0, hcz37_1, hfz37_0, hfz37_1⟩ := cells2 BK891.out
            go_wp2_with (first | ((with_reducible refine gc 57 rfl ?_); refine gl (some 75) #[.slice Ao24 t897.length co24, .agg #[.slice A1_0 l1_0.length c1_0, .slice A1_1 l1_1.length c1_1], .int .i64 a2] Tryd.func57 ?_; (with_reducible refine (kind_Is.calls kj20 _ _ t897 _ _ l1_0 _ _ l1_1 a2 t909 _ ?side1 ?side2 ?side3 ?side4 ?side5 ?side6 ?side7 A33.out).mono ?_); (case side1 => exact cr HO_9); (case side2 => exact (Kd.R_reads' HO_9.out).2.1); (case side3 => exact qC); (case side4 => exact HC1_0.out); (case side5 => exact qC); (case side6 => exact HC1_1.out); (case side7 => exact Laid.below HLD.out qB); rintro e w38 ⟨rfl, hb⟩; refine ⟨_, rfl, ?_⟩; replace BK891 := kb gb891 hb; replace HO_9 := rb HO_9 hb; replace HB := bst hb; (try clear hb)))
            go_ret
            exact ⟨qR, qB⟩
           ·rw [if_neg c36] at H
            have c36b0 := beq_eq_false_iff_ne.mpr c36
            have c36b1 := bne_iff_ne.mpr c36
            have c36z : (a2 == t906) = false := by rw [c36b0] at c35b0; simpa using c35b0
            obtain rfl := Option.some.inj H
            obtain ⟨hcz39_0, hcz39_1, hfz39_0, hfz39_1⟩ := cells2 BK891.out
            go_wp2_with (first | ((with_reducible refine gc 57 rfl ?_); refine gl (some 75) #[.slice Ao24 t897.length co24, .agg #[.slice A1_0 l1_0.length c1_0, .slice A1_1 l1_1.length c1_1], .int .i64 a2] Tryd.func57 ?_; (with_reducible refine (kind_Is.calls kj20 _ _ t897 _ _ l1_0 _ _ l1_1 a2 t909 _ ?side1 ?side2 ?side3 ?side4 ?side5 ?side6 ?side7 A33.out).mono ?_); (case side1 => exact cr HO_9); (case side2 => exact (Kd.R_reads' HO_9.out).2.1); (case side3 => exact qC); (case side4 => exact HC1_0.out); (case side5 => exact qC); (case side6 => exact HC1_1.out); (case side7 => exact Laid.below HLD.out qB); rintro e w40 ⟨rfl, hb⟩; refine ⟨_, rfl, ?_⟩; replace BK891 := kb gb891 hb; replace HO_9 := rb HO_9 hb; replace HB := bst hb; (try clear hb)))
            go_ret
            exact ⟨qR, qB⟩
          ·rw [if_neg c35] at H
           have c35b0 : ((t909 == 0) == (a2 == t906)) = false := by simpa using c35
           (try (have c35b1 : decide ((t909 == 0) = (a2 == t906)) = false := by simpa using c35))
           (try (have c35b2 : ((t909 == 0) == (a2 == t906)) = false := by simpa using c35))
           (try (have c35b3 : ¬ ((t909 == 0) = (a2 == t906)) := by simpa using c35))
           clear c35
           obtain rfl := Option.some.inj H
           obtain ⟨hcz41_0, hcz41_1, hfz41_0, hfz41_1⟩ := cells2 BK891.out
           go_wp2_with (first | ((with_reducible refine gc 57 rfl ?_); refine gl (some 75) #[.slice Ao24 t897.length co24, .agg #[.slice A1_0 l1_0.length c1_0, .slice A1_1 l1_1.length c1_1], .int .i64 a2] Tryd.func57 ?_; (with_reducible refine (kind_Is.calls kj20 _ _ t897 _ _ l1_0 _ _ l1_1 a2 t909 _ ?side1 ?side2 ?side3 ?side4 ?side5 ?side6 ?side7 A33.out).mono ?_); (case side1 => exact cr HO_9); (case side2 => exact (Kd.R_reads' HO_9.out).2.1); (case side3 => exact qC); (case side4 => exact HC1_0.out); (case side5 => exact qC); (case side6 => exact HC1_1.out); (case side7 => exact Laid.below HLD.out qB); rintro e w42 ⟨rfl, hb⟩; refine ⟨_, rfl, ?_⟩; replace BK891 := kb gb891 hb; replace HO_9 := rb HO_9 hb; replace HB := bst hb; (try clear hb)))
           go_ret
           exact ⟨qR, qB⟩
         ·rw [if_neg c34] at H
          have c34b0 := beq_eq_false_iff_ne.mpr c34
          have c34b1 := bne_iff_ne.mpr c34
          obtain rfl := Option.some.inj H
          obtain ⟨hcz43_0, hcz43_1, hfz43_0, hfz43_1⟩ := cells2 BK891.out
          go_wp2_with (first | ((with_reducible refine gc 57 rfl ?_); refine gl (some 75) #[.slice Ao24 t897.length co24, .agg #[.slice A1_0 l1_0.length c1_0, .slice A1_1 l1_1.length c1_1], .int .i64 a2] Tryd.func57 ?_; (with_reducible refine (kind_Is.calls kj20 _ _ t897 _ _ l1_0 _ _ l1_1 a2 t909 _ ?side1 ?side2 ?side3 ?side4 ?side5 ?side6 ?side7 A33.out).mono ?_); (case side1 => exact cr HO_9); (case side2 => exact (Kd.R_reads' HO_9.out).2.1); (case side3 => exact qC); (case side4 => exact HC1_0.out); (case side5 => exact qC); (case side6 => exact HC1_1.out); (case side7 => exact Laid.below HLD.out qB); rintro e w44 ⟨rfl, hb⟩; refine ⟨_, rfl, ?_⟩; replace BK891 := kb gb891 hb; replace HO_9 := rb HO_9 hb; replace HB := bst hb; (try clear hb)))
          go_ret
          exact ⟨qR, qB⟩
     ·rw [if_neg c17] at H
      have c17b0 := beq_eq_false_iff_ne.mpr c17
      have c17b1 := bne_iff_ne.mpr c17
      obtain rfl := Option.some.inj H
      go_wp2_with (first | ((with_reducible refine gc 53 rfl ?_); refine gl (some 40) #[.string a0] Tryd.func53 ?_; (with_reducible refine (expr_Read.calls kj6 a0 t897 t898 _ ?side1 A16.out).mono ?_); (case side1 => exact Laid.below HLD.out qB); rintro e w45 ⟨v899, rfl, ho0, hb⟩; refine ⟨_, rfl, ?_⟩; have HO900 := Aside0.mk (Kd.R_lower ho0 (below_size qB)); replace BK891 := kb gb891 hb; replace HO_7 := rb HO_7 hb; replace HB := bst hb; (try clear hb); (try clear ho0)))
      go_ret
      exact ⟨qR, qB⟩
 ·replace c5 := Bool.eq_false_iff.mpr c5
  subst c5
  rw [if_neg (show ¬ (false = true) by decide)] at H
  obtain rfl := Option.some.inj H
  go_enter Tryd.func13, Tryd.ntmps13
  go_wp2_with (first | ((with_reducible refine gate_dst (N := 4) rfl ?_); (try (refine gate_guard (by rfl) ?_; dsimp only)); refine box_event ?hg (N := 4) ?hd (cs := #[.slice A1_0 l1_0.length c1_0, .slice A1_1 l1_1.length c1_1]) (t := 78) ?hr ?_; (case hd => rfl); (case hg => rfl); (case hr => first | (go_simp; done) | (go_simp; rfl)); intro gb891 hg w46 hbox hb; have BK891 := Aside0.mk (hbox); have GW891 := geS hg; have GE891 := geS hg; replace HB := bst hb; clear hb hbox hg) | ((with_reducible refine gc 51 rfl ?_); refine gl (some 17) #[] Tryd.func51 ?_; (with_reducible refine (whirligiglaw04_anchor.calls k  false _ ?side1 A4.out).mono ?_); (case side1 => exact Laid.below HLD.out qB); rintro e w47 ⟨rfl, hb⟩; refine ⟨_, rfl, ?_⟩; replace BK891 := kb gb891 hb; replace HB := bst hb; (try clear hb)))
  go_ret
  exact ⟨qR, qB⟩
end Go.Proofs.YtbngfhlciebeeaaDoor.L
