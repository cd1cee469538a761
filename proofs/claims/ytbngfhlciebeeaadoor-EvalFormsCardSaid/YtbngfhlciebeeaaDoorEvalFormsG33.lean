/- Printed and hand-written steps towards the row (EvalForms), those that it reaches. -/
import Derived.Test.YtbngfhlciebeeaaDoorEvalFormsG4
import Derived.Test.YtbngfhlciebeeaaDoorEvalFormsG5
import Derived.Test.YtbngfhlciebeeaaDoorEvalFormsG22
section
namespace Go.Proofs.YtbngfhlciebeeaaDoor.L
open Go.RowKit Go.Proofs.YtbngfhlciebeeaaDoorW.PrintWords Go.Proofs.YtbngfhlciebeeaaDoorW.PrintLast Go.Proofs.YtbngfhlciebeeaaDoorW.PrintMore
attribute [local go_sem] max2_int min2_int max_two min_two max_three min_three max_four min_four   -- for this text's walks alone
set_option linter.unusedVariables false
set_option linter.unusedSimpArgs false
def val_Value_Yes.f (a0_0 : Int) (a0_1 : Int) (a0_2 : ByteArray) : Option (Bool) := if a0_0 = 2 then (some (a0_1 != 0)) else (some false)
set_option maxHeartbeats 8000000 in
set_option maxRecDepth 100000 in
theorem val_Value_Yes.calls (a0_0 : Int) (a0_1 : Int) (a0_2 : ByteArray) (r : Bool) (w : World) (h : val_Value_Yes.f a0_0 a0_1 a0_2 = some r) :
  Calls Tryd.prog 100 #[.agg #[.int .i64 a0_0, .int .i64 a0_1, .string a0_2]] w fun e w' => e = .returned (.bool r) ∧ Below w.heap.size w w' := by
 have hu103 := Tryd.underlying103
 have HB := Aside0.mk (Below.refl w.heap.size w)
 have H : (if a0_0 = 2 then (some (a0_1 != 0)) else (some false)) = some r := h
 clear h
 by_cases c2 : a0_0 = 2
 ·rw [if_pos c2] at H
  have c2b0 := beq_iff_eq.mpr c2
  have c2b1 := bne_eq_false_iff_eq.mpr c2
  clear c2
  obtain rfl := Option.some.inj H
  go_enter Tryd.func100, Tryd.ntmps100
  go_wp2_with (first | ((with_reducible refine gd 1 rfl ?_); refine bx 1 #[.int .i64 a0_0, .int .i64 a0_1, .string a0_2] 103 ?_; intro gb1099 hg w3 hbox hb; have BK1099 := Aside0.mk (hbox); have GW1099 := geS hg; have GE1099 := geS hg; replace HB := bst hb; clear hb hbox hg; obtain ⟨hcz4_0, hcz4_1, hcz4_2, hfz4_0, hfz4_1, hfz4_2⟩ := cells3 BK1099.out))
  go_ret
  exact ⟨qR, qB⟩
 ·rw [if_neg c2] at H
  have c2b0 := beq_eq_false_iff_ne.mpr c2
  have c2b1 := bne_iff_ne.mpr c2
  obtain rfl := Option.some.inj H
  go_enter Tryd.func100, Tryd.ntmps100
  go_wp2_with (first | ((with_reducible refine gd 1 rfl ?_); refine bx 1 #[.int .i64 a0_0, .int .i64 a0_1, .string a0_2] 103 ?_; intro gb1099 hg w5 hbox hb; have BK1099 := Aside0.mk (hbox); have GW1099 := geS hg; have GE1099 := geS hg; replace HB := bst hb; clear hb hbox hg; obtain ⟨hcz6_0, hcz6_1, hcz6_2, hfz6_0, hfz6_1, hfz6_2⟩ := cells3 BK1099.out))
  go_ret
  exact ⟨qR, qB⟩
end Go.Proofs.YtbngfhlciebeeaaDoor.L
end
section
namespace Go.Proofs.YtbngfhlciebeeaaDoor.L
open Go.RowKit Go.Proofs.YtbngfhlciebeeaaDoorW.PrintWords Go.Proofs.YtbngfhlciebeeaaDoorW.PrintLast Go.Proofs.YtbngfhlciebeeaaDoorW.PrintMore
attribute [local go_sem] max2_int min2_int max_two min_two max_three min_three max_four min_four   -- for this text's walks alone
set_option linter.unusedVariables false
set_option linter.unusedSimpArgs false
def eval_enough.f (a0 : Int) (a1_0 : Int) (a1_1 : Int) (a1_2 : ByteArray) : Option (Bool) := if a1_0 = 2 then (if a0 = 14 then ((val_Value_Yes.f a1_0 a1_1 a1_2).bind fun t1101 => (if t1101 = true then (if a0 = 15 then ((val_Value_Yes.f a1_0 a1_1 a1_2).bind fun t1102 => (some t1102)) else (some false)) else (some true))) else (if a0 = 15 then ((val_Value_Yes.f a1_0 a1_1 a1_2).bind fun t1103 => (some t1103)) else (some false))) else (some false)
set_option maxHeartbeats 8000000 in
set_option maxRecDepth 100000 in
theorem eval_enough.calls (a0 : Int) (a1_0 : Int) (a1_1 : Int) (a1_2 : ByteArray) (r : Bool) (w : World) (h : eval_enough.f a0 a1_0 a1_1 a1_2 = some r) :
  Calls Tryd.prog 125 #[.int .i64 a0, .agg #[.int .i64 a1_0, .int .i64 a1_1, .string a1_2]] w fun e w' => e = .returned (.bool r) ∧ Below w.heap.size w w' := by
 have hu103 := Tryd.underlying103
 have HB := Aside0.mk (Below.refl w.heap.size w)
 have H : (if a1_0 = 2 then (if a0 = 14 then ((val_Value_Yes.f a1_0 a1_1 a1_2).bind fun t1101 => (if t1101 = true then (if a0 = 15 then ((val_Value_Yes.f a1_0 a1_1 a1_2).bind fun t1102 => (some t1102)) else (some false)) else (some true))) else (if a0 = 15 then ((val_Value_Yes.f a1_0 a1_1 a1_2).bind fun t1103 => (some t1103)) else (some false))) else (some false)) = some r := h
 clear h
 by_cases c3 : a1_0 = 2
 ·rw [if_pos c3] at H
  have c3b0 := beq_iff_eq.mpr c3
  have c3b1 := bne_eq_false_iff_eq.mpr c3
  clear c3
  by_cases c4 : a0 = 14
  ·rw [if_pos c4] at H
   have c4b0 := beq_iff_eq.mpr c4
   have c4b1 := bne_eq_false_iff_eq.mpr c4
   clear c4
   replace H := Option.bind_eq_some_iff.mp H
   obtain ⟨t1101, A50, H⟩ := H
   (try dsimp -simprocs only at H)
   have A5 := Aside0.mk A50
   clear A50
   by_cases c6 : t1101 = true
   ·subst c6
    rw [if_pos rfl] at H
    by_cases c7 : a0 = 15
    ·rw [if_pos c7] at H
     have c7b0 := beq_iff_eq.mpr c7
     have c7b1 := bne_eq_false_iff_eq.mpr c7
     clear c7
     replace H := Option.bind_eq_some_iff.mp H
     obtain ⟨t1102, A80, H⟩ := H
     (try dsimp -simprocs only at H)
     have A8 := Aside0.mk A80
     clear A80
     try (obtain rfl : t1102 = _ := Option.some.inj (A8.out.symm.trans A5.out))
     obtain rfl := Option.some.inj H
     go_enter Tryd.func125, Tryd.ntmps125
     go_wp2_with (first | ((with_reducible refine gd 3 rfl ?_); refine bx 3 #[.int .i64 a1_0, .int .i64 a1_1, .string a1_2] 103 ?_; intro gb1100 hg w9 hbox hb; have BK1100 := Aside0.mk (hbox); have GW1100 := geS hg; have GE1100 := geS hg; replace HB := bst hb; clear hb hbox hg; obtain ⟨hcz10_0, hcz10_1, hcz10_2, hfz10_0, hfz10_1, hfz10_2⟩ := cells3 BK1100.out) | (go_at_call 100; (with_reducible refine (val_Value_Yes.calls a1_0 a1_1 a1_2 true _ A5.out).mono ?_); rintro e w11 ⟨rfl, hb⟩; replace BK1100 := kb gb1100 hb; replace HB := bst hb; (try clear hb); obtain ⟨hcz12_0, hcz12_1, hcz12_2, hfz12_0, hfz12_1, hfz12_2⟩ := cells3 BK1100.out) | (go_at_call 100; (with_reducible refine (val_Value_Yes.calls a1_0 a1_1 a1_2 t1102 _ A8.out).mono ?_); rintro e w13 ⟨rfl, hb⟩; replace BK1100 := kb gb1100 hb; replace HB := bst hb; (try clear hb)))
     go_ret
     exact ⟨qR, qB⟩
    ·rw [if_neg c7] at H
     have c7b0 := beq_eq_false_iff_ne.mpr c7
     have c7b1 := bne_iff_ne.mpr c7
     obtain rfl := Option.some.inj H
     go_enter Tryd.func125, Tryd.ntmps125
     go_wp2_with (first | ((with_reducible refine gd 3 rfl ?_); refine bx 3 #[.int .i64 a1_0, .int .i64 a1_1, .string a1_2] 103 ?_; intro gb1100 hg w14 hbox hb; have BK1100 := Aside0.mk (hbox); have GW1100 := geS hg; have GE1100 := geS hg; replace HB := bst hb; clear hb hbox hg; obtain ⟨hcz15_0, hcz15_1, hcz15_2, hfz15_0, hfz15_1, hfz15_2⟩ := cells3 BK1100.out) | (go_at_call 100; (with_reducible refine (val_Value_Yes.calls a1_0 a1_1 a1_2 true _ A5.out).mono ?_); rintro e w16 ⟨rfl, hb⟩; replace BK1100 := kb gb1100 hb; replace HB := bst hb; (try clear hb)))
     go_ret
     exact ⟨qR, qB⟩
   ·replace c6 := Bool.eq_false_iff.mpr c6
    subst c6
    rw [if_neg (show ¬ (false = true) by decide)] at H
    obtain rfl := Option.some.inj H
    go_enter Tryd.func125, Tryd.ntmps125
    go_wp2_with (first | ((with_reducible refine gd 3 rfl ?_); refine bx 3 #[.int .i64 a1_0, .int .i64 a1_1, .string a1_2] 103 ?_; intro gb1100 hg w17 hbox hb; have BK1100 := Aside0.mk (hbox); have GW1100 := geS hg; have GE1100 := geS hg; replace HB := bst hb; clear hb hbox hg; obtain ⟨hcz18_0, hcz18_1, hcz18_2, hfz18_0, hfz18_1, hfz18_2⟩ := cells3 BK1100.out) | (go_at_call 100; (with_reducible refine (val_Value_Yes.calls a1_0 a1_1 a1_2 false _ A5.out).mono ?_); rintro e w19 ⟨rfl, hb⟩; replace BK1100 := kb gb1100 hb; replace HB := bst hb; (try clear hb)))
    go_ret
    exact ⟨qR, qB⟩
  ·rw [if_neg c4] at H
   have c4b0 := beq_eq_false_iff_ne.mpr c4
   have c4b1 := bne_iff_ne.mpr c4
   by_cases c20 : a0 = 15
   ·rw [if_pos c20] at H
    have c20b0 := beq_iff_eq.mpr c20
    have c20b1 := bne_eq_false_iff_eq.mpr c20
    clear c20
    replace H := Option.bind_eq_some_iff.mp H
    obtain ⟨t1103, A210, H⟩ := H
    (try dsimp -simprocs only at H)
    have A21 := Aside0.mk A210
    clear A210
    try (obtain rfl : t1103 = _ := Option.some.inj (A21.out.symm.trans A8.out))
    obtain rfl := Option.some.inj H
    go_enter Tryd.func125, Tryd.ntmps125
    go_wp2_with (first | ((with_reducible refine gd 3 rfl ?_); refine bx 3 #[.int .i64 a1_0, .int .i64 a1_1, .string a1_2] 103 ?_; intro gb1100 hg w22 hbox hb; have BK1100 := Aside0.mk (hbox); have GW1100 := geS hg; have GE1100 := geS hg; replace HB := bst hb; clear hb hbox hg; obtain ⟨hcz23_0, hcz23_1, hcz23_2, hfz23_0, hfz23_1, hfz23_2⟩ := cells3 BK1100.out) | (go_at_call 100; (with_reducible refine (val_Value_Yes.calls a1_0 a1_1 a1_2 t1103 _ A21.out).mono ?_); rintro e w24 ⟨rfl, hb⟩; replace BK1100 := kb gb1100 hb; replace HB := bst hb; (try clear hb)))
    go_ret
    exact ⟨qR, qB⟩
   ·rw [if_neg c20] at H
    have c20b0 := beq_eq_false_iff_ne.mpr c20
    have c20b1 := bne_iff_ne.mpr c20
    obtain rfl := Option.some.inj H
    go_enter Tryd.func125, Tryd.ntmps125
    go_wp2_with (first | ((with_reducible refine gd 3 rfl ?_); refine bx 3 #[.int .i64 a1_0, .int .i64 a1_1, .string a1_2] 103 ?_; intro gb1100 hg w25 hbox hb; have BK1100 := Aside0.mk (hbox); have GW1100 := geS hg; have GE1100 := geS hg; replace HB := bst hb; clear hb hbox hg; obtain ⟨hcz26_0, hcz26_1, hcz26_2, hfz26_0, hfz26_1, hfz26_2⟩ := cells3 BK1100.out))
    go_ret
    exact ⟨qR, qB⟩
 ·rw [if_neg c3] at H
  have c3b0 := beq_eq_false_iff_ne.mpr c3
  have c3b1 := bne_iff_ne.mpr c3
  obtain rfl := Option.some.inj H
  go_enter Tryd.func125, Tryd.ntmps125
  go_wp2_with (first | ((with_reducible refine gd 3 rfl ?_); refine bx 3 #[.int .i64 a1_0, .int .i64 a1_1, .string a1_2] 103 ?_; intro gb1100 hg w27 hbox hb; have BK1100 := Aside0.mk (hbox); have GW1100 := geS hg; have GE1100 := geS hg; replace HB := bst hb; clear hb hbox hg; obtain ⟨hcz28_0, hcz28_1, hcz28_2, hfz28_0, hfz28_1, hfz28_2⟩ := cells3 BK1100.out))
  go_ret
  exact ⟨qR, qB⟩
end Go.Proofs.YtbngfhlciebeeaaDoor.L
end
section
namespace Go.Proofs.YtbngfhlciebeeaaDoor.L
set_option linter.unusedVariables false
set_option linter.unusedSimpArgs false
open Go.RowKit Go.Proofs.YtbngfhlciebeeaaDoorW.PrintWords Go.Proofs.YtbngfhlciebeeaaDoorW.PrintLast Go.Proofs.YtbngfhlciebeeaaDoorW.PrintMore
theorem bytes_ne {a b : ByteArray} (h : a ≠ b) : (a.toList == b.toList) = false := by
  rw [ByteArray.toList_eq, ByteArray.toList_eq, beq_eq_false_iff_ne]
  intro e
  apply h
  obtain ⟨⟨x⟩⟩ := a
  obtain ⟨⟨y⟩⟩ := b
  simp at e
  rw [e]
def idxCell (s : ByteArray) (xs : List S116) : Int := match xs.findIdx? (fun x => decide (x.f0 = s)) with | some j => (j : Int) | none => -1
theorem idxCell_hit {s : ByteArray} {xs : List S116} {j : Nat} (hl : j < xs.length) (hno : ∀ x ∈ xs.take j, x.f0 ≠ s) (he : xs[j].f0 = s) : idxCell s xs = (j : Int) := by
  have h : xs.findIdx? (fun x => decide (x.f0 = s)) = some j := by
    rw [List.findIdx?_eq_some_iff_getElem]
    refine ⟨hl, by simpa using he, fun k hk => ?_⟩
    have := hno xs[k] (List.mem_take_iff_getElem.2 ⟨k, by omega, rfl⟩)
    simpa using this
  unfold idxCell
  rw [h]
theorem idxCell_miss {s : ByteArray} {xs : List S116} (hno : ∀ x ∈ xs, x.f0 ≠ s) : idxCell s xs = -1 := by
  have h : xs.findIdx? (fun x => decide (x.f0 = s)) = none := by
    rw [List.findIdx?_eq_none_iff]
    intro x hx
    simpa using hno x hx
  unfold idxCell
  rw [h]
theorem idxCell_lt {s : ByteArray} {xs : List S116} (h : 0 ≤ idxCell s xs) : idxCell s xs < (xs.length : Int) := by
  unfold idxCell at h ⊢
  cases hx : xs.findIdx? (fun x => decide (x.f0 = s)) with
  | none => rw [hx] at h; simp at h
  | some j =>
    rw [List.findIdx?_eq_some_iff_getElem] at hx
    obtain ⟨hl, _⟩ := hx
    simp only
    omega
set_option maxHeartbeats 8000000 in
set_option maxRecDepth 100000 in
theorem idxCell_calls (g : Nat) (s : ByteArray) (A : Option Addr) (c : Nat) (xs : List S116) (w : World) (hr : Kd.C k116 w A xs.length xs) (hc : xs.length ≤ c) (hg : w.cell? ⟨g, 0, none⟩ = some (.string s)) :
    Calls Tryd.prog 144 #[.slice A xs.length c, .func (.func 145) #[] #[.pointer (some ⟨g, 0, none⟩)]] w fun e w' => e = .returned (.int .i64 (idxCell s xs)) ∧ Below w.heap.size w w' := by
  have HR := Aside0.mk hr
  have HG := Aside0.mk hg
  have HN := hr.2.1
  clear hr hg
  go_enter Tryd.func144, Tryd.ntmps144
  go_wp2
  go_loopg [8] xs.length (fun kq v8 w' => ∃ (j : Nat), v8 = .int .i64 (j : Int) ∧ Aside0 (kq = xs.length - j) ∧ Aside0 (j ≤ xs.length) ∧ Aside0 (∀ x ∈ xs.take j, x.f0 ≠ s) ∧ Aside0 (Below w.heap.size w w'))
  case atStart => exact ⟨0, rfl, ⟨rfl⟩, ⟨Nat.zero_le _⟩, ⟨by simp⟩, ⟨Below.refl _ _⟩⟩
  case round =>
    obtain ⟨j, rfl, hk, hj, hno, HB⟩ := hrel
    by_cases hl : j < xs.length
    · have c1 : decide ((j : Int) < (xs.length : Int)) = true := decide_eq_true (by omega)
      obtain ⟨ad, eA, g0, g1, g2, g3⟩ := at_T116 (Kd.C_below HR.out HB.out) (j : Int) (by omega) (by omega)
      subst eA
      rw [Int.toNat_natCast] at g0 g1 g2 g3
      have hcap := pw_cell_below HB.out HG.out
      have ht := Aside0.mk (show rd_T116 xs (j : Int) = xs[j] by
        unfold rd_T116
        rw [Int.toNat_natCast, List.getD_eq_getElem?_getD, List.getElem?_eq_getElem hl]; rfl)
      have hcapA : (wr.alloc (.cells #[.string (rd_T116 xs (j : Int)).f0, .int .i64 (rd_T116 xs (j : Int)).f1.f0, .int .i64 (rd_T116 xs (j : Int)).f1.f1, .string (rd_T116 xs (j : Int)).f1.f2] 116)).cell? ⟨g, 0, none⟩ = some (.string s) :=
        pw_cell_below ((Below.refl wr.heap.size wr).alloc (Nat.le_refl _) _) hcap
      have hBA := Aside0.mk (HB.out.alloc HB.out.size (.cells #[.string (rd_T116 xs (j : Int)).f0, .int .i64 (rd_T116 xs (j : Int)).f1.f0, .int .i64 (rd_T116 xs (j : Int)).f1.f1, .string (rd_T116 xs (j : Int)).f1.f2] 116))
      clear hcap
      by_cases he : (rd_T116 xs (j : Int)).f0 = s
      · have c2 : ((rd_T116 xs (j : Int)).f0.toList == s.toList) = true := by rw [he]; exact beq_self_eq_true _
        have hidx := Aside0.mk (idxCell_hit hl hno.out (by rw [← ht.out]; exact he))
        clear he
        go_wp2
        go_ret
        exact ⟨by rw [hidx.out]; rfl, hBA.out⟩
      · have c2 : ((rd_T116 xs (j : Int)).f0.toList == s.toList) = false := bytes_ne he
        have hne := Aside0.mk he
        clear he
        go_wp2
        go_roundg (xs.length - (j + 1))
        case rel =>
          refine ⟨j + 1, rfl, ⟨rfl⟩, ⟨hl⟩, ⟨fun x hx => ?_⟩, hBA⟩
          rw [List.take_succ_eq_append_getElem hl] at hx
          rcases List.mem_append.1 hx with h | h
          · exact hno.out x h
          · rw [List.mem_singleton.1 h, ← ht.out]; exact hne.out
        case measure => have := hk.out; omega
    · have c1 : decide ((j : Int) < (xs.length : Int)) = false := decide_eq_false (by omega)
      have hidx := Aside0.mk (idxCell_miss (s := s) (xs := xs) (fun x hx => hno.out x (by rw [List.take_of_length_le (by omega)]; exact hx)))
      go_wp2
      go_ret
      exact ⟨by rw [hidx.out]; rfl, HB.out⟩
def eval_Env_find.f (l0 : List S116) (l1 : List ByteArray) (a1 : ByteArray) : Option (Int × Int × ByteArray × Int) :=
  if 0 ≤ idxCell a1 l0 then some ((rd_T116 l0 (idxCell a1 l0)).f1.f0, (rd_T116 l0 (idxCell a1 l0)).f1.f1, (rd_T116 l0 (idxCell a1 l0)).f1.f2, 0) else some (0, 0, ⟨#[]⟩, 24)
theorem size_up2 (w : World) (o o' : Obj) : w.heap.size ≤ ((w.alloc o).alloc o').heap.size := by rw [size_alloc1, size_alloc1]; omega
set_option maxHeartbeats 8000000 in
set_option maxRecDepth 100000 in
theorem eval_Env_find.calls (A0 : Option Addr) (c0 : Nat) (l0 : List S116) (A1 : Option Addr) (c1 : Nat) (l1 : List ByteArray) (a1 : ByteArray) (r1 r2 : Int) (r3 : ByteArray) (r4 : Int) (w : World) (hr0 : Kd.C k116 w A0 l0.length l0) (hc0 : l0.length ≤ c0) (hr1 : Kd.C Kd.string w A1 l1.length l1) (hc1 : l1.length ≤ c1) (h : eval_Env_find.f l0 l1 a1 = some (r1, r2, r3, r4)) :
    Calls Tryd.prog 123 #[.agg #[.slice A0 l0.length c0, .slice A1 l1.length c1], .string a1] w fun e w' => e = .returned (.tuple #[.agg #[.int .i64 r1, .int .i64 r2, .string r3], .int .i64 r4]) ∧ Below w.heap.size w w' := by
  have HR0 := Aside0.mk hr0
  have HC0 := Aside0.mk hc0
  clear hr0 hc0 hr1 hc1
  unfold eval_Env_find.f at h
  have HH := Aside0.mk h
  clear h
  have hB := Aside0.mk ((((Below.refl w.heap.size w).alloc (Nat.le_refl _) (.cells #[.slice A0 l0.length c0, .slice A1 l1.length c1] 98)).alloc (size_up w (.cells #[.slice A0 l0.length c0, .slice A1 l1.length c1] 98)) (.cells #[.string a1] 9)).alloc (size_up2 w (.cells #[.slice A0 l0.length c0, .slice A1 l1.length c1] 98) (.cells #[.string a1] 9)) (.cells #[.int .i64 0, .int .i64 0, .string ⟨#[]⟩] 103))
  have b2 := Aside0.mk (blk_alloc (blk_alloc (blk_new w (.cells #[.slice A0 l0.length c0, .slice A1 l1.length c1] 98)) (.cells #[.string a1] 9)) (.cells #[.int .i64 0, .int .i64 0, .string ⟨#[]⟩] 103))
  have b3 := Aside0.mk (blk_alloc (blk_new (w.alloc (.cells #[.slice A0 l0.length c0, .slice A1 l1.length c1] 98)) (.cells #[.string a1] 9)) (.cells #[.int .i64 0, .int .i64 0, .string ⟨#[]⟩] 103))
  have b4 := Aside0.mk (blk_new ((w.alloc (.cells #[.slice A0 l0.length c0, .slice A1 l1.length c1] 98)).alloc (.cells #[.string a1] 9)) (.cells #[.int .i64 0, .int .i64 0, .string ⟨#[]⟩] 103))
  rw [size_alloc1] at b3
  rw [size_alloc1, size_alloc1] at b4
  have hcap := blk_cell b3.out 0
  go_enter Tryd.func123, Tryd.ntmps123
  go_wp2_with (go_at_call 144; refine (idxCell_calls (w.heap.size + 1) a1 A0 c0 l0 _ (Kd.C_below HR0.out hB.out) HC0.out hcap).mono ?_)
  rintro e w2 ⟨rfl, hb2⟩
  have hB2 := Aside0.mk (below_step hB.out hb2)
  have b22 := Aside0.mk (blk_below b2.out hb2)
  have b42 := Aside0.mk (blk_below b4.out hb2)
  clear hcap hb2 b3 b2 b4 hB
  have e0 := blk_cell b22.out 0
  have d0 := blk_cell b42.out 0
  have d1 := blk_cell b42.out 1
  have d2 := blk_cell b42.out 2
  have f0 := blk_frozen b42.out 0
  have f1 := blk_frozen b42.out 1
  have f2 := blk_frozen b42.out 2
  have h := HH.out
  clear HH
  by_cases hx : 0 ≤ idxCell a1 l0
  · rw [if_pos hx] at h
    have hx2 := idxCell_lt hx
    generalize idxCell a1 l0 = ix at h hx hx2 ⊢
    obtain ⟨m, rfl⟩ := Int.eq_ofNat_of_zero_le hx
    have c4 : decide ((m : Int) < 0) = false := decide_eq_false (by omega)
    have c5 : decide (0 ≤ (m : Int)) = true := decide_eq_true hx
    have c6 : decide ((m : Int) < (l0.length : Int)) = true := decide_eq_true hx2
    have hm : m < l0.length := by omega
    obtain ⟨ad, eA, q0, q1, q2, q3⟩ := at_T116 (Kd.C_below HR0.out hB2.out) (m : Int) hx (by omega)
    rw [Int.toNat_natCast] at q0 q1 q2 q3
    subst eA
    simp only [Option.some.injEq, Prod.mk.injEq] at h
    obtain ⟨rfl, rfl, rfl, rfl⟩ := h
    go_wp2
    refine bodyPost_ret (results_ct rfl _ _ (w.heap.size + 2) 103 #[.int .i64 (rd_T116 l0 (m : Int)).f1.f0, .int .i64 (rd_T116 l0 (m : Int)).f1.f1, .string (rd_T116 l0 (m : Int)).f1.f2] (0, 0) _ rfl (by refine blk_put (cs := #[.int .i64 (rd_T116 l0 (m : Int)).f1.f0, .int .i64 (rd_T116 l0 (m : Int)).f1.f1, .string ⟨#[]⟩]) ?_ 2 _ rfl; refine blk_put (cs := #[.int .i64 (rd_T116 l0 (m : Int)).f1.f0, .int .i64 0, .string ⟨#[]⟩]) ?_ 1 _ rfl; refine blk_put (cs := #[.int .i64 0, .int .i64 0, .string ⟨#[]⟩]) ?_ 0 _ rfl; exact b42.out) Tryd.underlying103 rfl (by kernel_rfl)) rfl ?_
    exact ⟨rfl, below_set (below_set (below_set hB2.out (by omega)) (by omega)) (by omega)⟩
  · rw [if_neg hx] at h
    have c4 : decide (idxCell a1 l0 < 0) = true := decide_eq_true (by omega)
    simp only [Option.some.injEq, Prod.mk.injEq] at h
    obtain ⟨rfl, rfl, rfl, rfl⟩ := h
    go_wp2
    refine bodyPost_ret (results_ct rfl _ _ (w.heap.size + 2) 103 #[.int .i64 0, .int .i64 0, .string ⟨#[]⟩] (0, 0) _ rfl (by refine blk_put (cs := #[.int .i64 0, .int .i64 0, .string ⟨#[]⟩]) ?_ 2 _ rfl; refine blk_put (cs := #[.int .i64 0, .int .i64 0, .string ⟨#[]⟩]) ?_ 1 _ rfl; refine blk_put (cs := #[.int .i64 0, .int .i64 0, .string ⟨#[]⟩]) ?_ 0 _ rfl; exact b42.out) Tryd.underlying103 rfl (by kernel_rfl)) rfl ?_
    exact ⟨rfl, below_set (below_set (below_set hB2.out (by omega)) (by omega)) (by omega)⟩
end Go.Proofs.YtbngfhlciebeeaaDoor.L
end
