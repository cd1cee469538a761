/- Printed and hand-written steps towards the row (EvalForms), those that it reaches. -/
import Derived.Test.YtbngfhlciebeeaaDoorEvalFormsG27
import Derived.Test.YtbngfhlciebeeaaDoorEvalFormsG13
import Derived.Test.YtbngfhlciebeeaaDoorEvalFormsLxf59
import Derived.Test.YtbngfhlciebeeaaDoorEvalFormsLxf60
import Derived.Test.YtbngfhlciebeeaaDoorEvalFormsG35
import Derived.KernelRfl
import Derived.Test.YtbngfhlciebeeaaDoorEvalFormsG4
import Derived.Test.YtbngfhlciebeeaaDoorEvalFormsG5
import Derived.Test.YtbngfhlciebeeaaDoorEvalFormsG18
import Derived.Test.YtbngfhlciebeeaaDoorEvalFormsG21
section
namespace Go.Proofs.YtbngfhlciebeeaaDoor.Sp
set_option linter.unusedVariables false
set_option linter.unusedSimpArgs false
open Go.RowKit Go.Proofs.YtbngfhlciebeeaaDoorW.PrintWords Go.Proofs.YtbngfhlciebeeaaDoorW.PrintMore Go.Proofs.YtbngfhlciebeeaaDoor.L
theorem anchor05_ev : Ev (fun k => whirligiglaw05_anchor.f k) true := ⟨100, fun k hk => by
  obtain ⟨j, rfl⟩ : ∃ j, k = j + 100 := ⟨k - 100, by omega⟩
  kernel_rfl⟩
def c166 (x : S116) : S166 := ⟨x.f0, ⟨x.f1.f0, x.f1.f1, x.f1.f2⟩⟩
theorem rd116 {l : List S116} {j : Nat} (h : j < l.length) : rd_T116 l (j : Int) = l[j] := by
  unfold rd_T116
  rw [Int.toNat_natCast, List.getD_eq_getElem?_getD, List.getElem?_eq_getElem h]
  rfl
theorem nil_is {s : ByteArray} : s.toList = ([] : List UInt8) ↔ s = ⟨#[]⟩ :=
  ⟨fun h => toL_inj.1 (h.trans nil_toList.symm), fun h => by rw [h, nil_toList]⟩
theorem rRight_ev (v : S103) (hs : v.f2.size ≤ 100) : ∃ b, Ev (fun k => whirligigref01_Right.f k v.f0 v.f1 v.f2) b ∧ (b = true → ValOk v) := by
  unfold whirligigref01_Right.f
  by_cases h3 : v.f0 = 3
  · by_cases h0 : v.f1 = 0
    · by_cases hl : v.f2.size ≤ 48
      · refine ⟨_, Ev.pos h3 (Ev.pos h0 (Ev.bind (rplain_ev v.f2 hl) (Ev.some rfl))), fun h => Or.inr (Or.inr ⟨h3, h0, ?_⟩)⟩
        unfold PlainS
        rw [h, decide_eq_true hl]; rfl
      · refine ⟨false, Ev.pos h3 (Ev.pos h0 (Ev.bind (a := false) ?_ (Ev.some rfl))), fun h => by cases h⟩
        unfold whirligigref01_Plain.f
        exact Ev.pos (by omega) (Ev.some rfl)
    · exact ⟨false, Ev.pos h3 (Ev.neg h0 (Ev.some rfl)), fun h => by cases h⟩
  · by_cases hn : v.f2.toList = ([] : List UInt8)
    · by_cases h1 : v.f0 = 1
      · exact ⟨true, Ev.neg h3 (Ev.pos hn (Ev.pos h1 (Ev.some rfl))), fun _ => Or.inl ⟨h1, nil_is.1 hn⟩⟩
      · by_cases h2 : v.f0 = 2
        · by_cases h0 : v.f1 = 0
          · exact ⟨true, Ev.neg h3 (Ev.pos hn (Ev.neg h1 (Ev.pos h2 (Ev.pos h0 (Ev.some rfl))))), fun _ => Or.inr (Or.inl ⟨h2, Or.inl h0, nil_is.1 hn⟩)⟩
          · exact ⟨_, Ev.neg h3 (Ev.pos hn (Ev.neg h1 (Ev.pos h2 (Ev.neg h0 (Ev.some rfl))))), fun h => Or.inr (Or.inl ⟨h2, Or.inr (by simpa using h), nil_is.1 hn⟩)⟩
        · exact ⟨false, Ev.neg h3 (Ev.pos hn (Ev.neg h1 (Ev.neg h2 (Ev.some rfl)))), fun h => by cases h⟩
    · exact ⟨false, Ev.neg h3 (Ev.neg hn (Ev.some rfl)), fun h => by cases h⟩
theorem cells05_l0 (l : List S116) (ss : List ByteArray) (hl : l.length * 48 ≤ 140737488351232) : ∀ (d j : Nat), j ≤ l.length → l.length - j = d → (∀ x ∈ l.take j, ValOk x.f1) →
    ∃ r, Ev (fun k => whirligiglaw05_cells.l0 k ((l.take j).map c166) l (l.length : Int) (j : Int) l ss) r ∧ (r.2 = true → r.1 = l.map c166 ∧ l.length ≤ 100 ∧ ss.length ≤ 100 ∧ ∀ x ∈ l, ValOk x.f1) := by
  intro d
  induction d with
  | zero =>
    intro j hj hd hx
    rw [List.take_of_length_le (by omega)] at hx ⊢
    by_cases g : (l.length : Int) ≤ 100
    · refine ⟨(l.map c166, decide ((ss.length : Int) ≤ 100)), Ev.succ ?_, fun h => ⟨rfl, by omega, by have := of_decide_eq_true h; omega, hx⟩⟩
      simp only [whirligiglaw05_cells.l0]
      exact Ev.neg (by omega) (Ev.pos g (Ev.some rfl))
    · refine ⟨(l.map c166, false), Ev.succ ?_, fun h => by cases h⟩
      simp only [whirligiglaw05_cells.l0]
      exact Ev.neg (by omega) (Ev.neg g (Ev.some rfl))
  | succ d ih =>
    intro j hj hd hx
    have hjl : j < l.length := by omega
    by_cases g1 : (l[j].f1.f2.size : Int) > 100
    · refine ⟨([], false), Ev.succ ?_, fun h => by cases h⟩
      simp only [whirligiglaw05_cells.l0]
      rw [rd116 hjl]
      exact Ev.pos (by omega) (Ev.pos (by omega) (Ev.pos (by omega) (Ev.pos g1 (Ev.some rfl))))
    obtain ⟨b, hb, hb'⟩ := rRight_ev l[j].f1 (by omega)
    cases b with
    | false =>
      refine ⟨([], false), Ev.succ ?_, fun h => by cases h⟩
      simp only [whirligiglaw05_cells.l0]
      rw [rd116 hjl]
      exact Ev.pos (by omega) (Ev.pos (by omega) (Ev.pos (by omega) (Ev.neg g1 (Ev.bind hb (Ev.neg (by decide) (Ev.some rfl))))))
    | true =>
      obtain ⟨r, hr, hi⟩ := ih (j + 1) (by omega) (by omega) (fun x hm => by
        rw [List.take_add_one, List.getElem?_eq_getElem hjl] at hm
        rcases List.mem_append.1 hm with hm | hm
        · exact hx x hm
        · obtain rfl : x = l[j] := by simpa using hm
          exact hb' rfl)
      rw [List.take_add_one, List.getElem?_eq_getElem hjl, List.map_append] at hr
      refine ⟨r, Ev.succ ?_, hi⟩
      simp only [whirligiglaw05_cells.l0]
      rw [rd116 hjl, up1 (by omega)]
      exact Ev.pos (by omega) (Ev.pos (by omega) (Ev.pos (by omega) (Ev.neg g1 (Ev.bind hb (Ev.pos rfl (Ev.pos (by rw [List.length_map, List.length_take]; omega) hr))))))
theorem cells05_is (l : List S116) (ss : List ByteArray) (hl : l.length * 48 ≤ 140737488351232) : ∃ r, Ev (fun k => whirligiglaw05_cells.f k l ss) r ∧ (r.2 = true → r.1 = l.map c166 ∧ l.length ≤ 100 ∧ ss.length ≤ 100 ∧ ∀ x ∈ l, ValOk x.f1) := by
  obtain ⟨r, h, h'⟩ := cells05_l0 l ss hl l.length 0 (by omega) (by omega) (by simp)
  refine ⟨r, ?_, h'⟩
  unfold whirligiglaw05_cells.f
  exact h
theorem Holds_err {x : List S156} {vs : List S116} {ss : List ByteArray} {a b : Int} {s : ByteArray} {e : Int} (h : Ev (fun k => eval_Eval.f k x vs ss) (a, b, s, e)) (he : e ≠ 0) : Ev (fun k => eval_Holds.f k x vs ss) (false, e) := by
  unfold eval_Holds.f
  exact Ev.bind h (Ev.neg he (Ev.some rfl))
end Go.Proofs.YtbngfhlciebeeaaDoor.Sp
end
section
namespace Go.Proofs.YtbngfhlciebeeaaDoor.L
open Go.RowKit Go.Proofs.YtbngfhlciebeeaaDoorW.PrintWords Go.Proofs.YtbngfhlciebeeaaDoorW.PrintLast Go.Proofs.YtbngfhlciebeeaaDoorW.PrintMore
attribute [local go_sem] max2_int min2_int max_two min_two max_three min_three max_four min_four   -- for this text's walks alone
set_option linter.unusedVariables false
set_option linter.unusedSimpArgs false
attribute [local go_sem high] eqA103
def whirligiglaw05_EvalForms.j0 : Nat → List (S156) → Bool → List (S116) → List ByteArray → Option (Bool)
 | 0, _, _, _, _ => none
 | k + 1, x0, x28, x1322000, x1322001 => if x28 = true then (some true) else ((eval_Eval.f k x0 x1322000 x1322001).bind fun bt1328 => ((eval_Holds.f k x0 x1322000 x1322001).bind fun bt1333 => (if (bt1328.1 == 0 && (bt1328.2.1 == 0 && (bt1328.2.2.1.toList == ([] : List UInt8)))) = true then (if bt1328.2.2.2 = 11 then (if bt1333.1 = true then (some false) else (some (bt1333.2 == 11))) else (some false)) else (some false))))
def whirligiglaw05_EvalForms.f (k : Nat) (l0 : List (S156)) (l1_0 : List (S116)) (l1_1 : List ByteArray) : Option (Bool) := (whirligiglaw05_anchor.f k).bind fun t1322 => (if t1322 = true then ((whirligiglaw05_cells.f k l1_0 l1_1).bind fun bt1323 => (if bt1323.2 = true then (if (l0.length : Int) > 100 then (whirligiglaw05_EvalForms.j0 k l0 true l1_0 l1_1) else ((expr_Expr_Right.f k l0).bind fun t1327 => (whirligiglaw05_EvalForms.j0 k l0 t1327 l1_0 l1_1))) else (whirligiglaw05_EvalForms.j0 k l0 true l1_0 l1_1))) else (some false))
set_option maxHeartbeats 8000000 in
set_option maxRecDepth 100000 in
theorem whirligiglaw05_EvalForms.calls (k : Nat) (A0 : Option Addr) (c0 : Nat) (l0 : List (S156)) (A1_0 : Option Addr) (c1_0 : Nat) (l1_0 : List (S116)) (A1_1 : Option Addr) (c1_1 : Nat) (l1_1 : List ByteArray) (r : Bool) (w : World) (hr0 : Kd.C k156 w A0 l0.length l0) (hc0 : l0.length ≤ c0) (hr1_0 : Kd.C k116 w A1_0 l1_0.length l1_0) (hc1_0 : l1_0.length ≤ c1_0) (hr1_1 : Kd.C Kd.string w A1_1 l1_1.length l1_1) (hc1_1 : l1_1.length ≤ c1_1) (hL : Laid w) (h : whirligiglaw05_EvalForms.f k l0 l1_0 l1_1 = some r) :
  Calls Tryd.prog 16 #[.slice A0 l0.length c0, .agg #[.slice A1_0 l1_0.length c1_0, .slice A1_1 l1_1.length c1_1]] w fun e w' => e = .returned (.bool r) ∧ Below w.heap.size w w' := by
 have hu98 := Tryd.underlying98
 have hu103 := Tryd.underlying103
 have HR0 := Aside0.mk hr0
 have HC0 := Aside0.mk hc0
 clear hr0 hc0
 have HR1_0 := Aside0.mk hr1_0
 have HC1_0 := Aside0.mk hc1_0
 clear hr1_0 hc1_0
 have HR1_1 := Aside0.mk hr1_1
 have HC1_1 := Aside0.mk hc1_1
 clear hr1_1 hc1_1
 have HB := Aside0.mk (Below.refl w.heap.size w)
 have HLD := Aside0.mk hL
 clear hL
 have H : ((whirligiglaw05_anchor.f k).bind fun t1322 => (if t1322 = true then ((whirligiglaw05_cells.f k l1_0 l1_1).bind fun bt1323 => (if bt1323.2 = true then (if (l0.length : Int) > 100 then (whirligiglaw05_EvalForms.j0 k l0 true l1_0 l1_1) else ((expr_Expr_Right.f k l0).bind fun t1327 => (whirligiglaw05_EvalForms.j0 k l0 t1327 l1_0 l1_1))) else (whirligiglaw05_EvalForms.j0 k l0 true l1_0 l1_1))) else (some false))) = some r := h
 clear h
 replace H := Option.bind_eq_some_iff.mp H
 obtain ⟨t1322, A30, H⟩ := H
 (try dsimp -simprocs only at H)
 have A3 := Aside0.mk A30
 clear A30
 by_cases c4 : t1322 = true
 ·subst c4
  rw [if_pos rfl] at H
  replace H := Option.bind_eq_some_iff.mp H
  obtain ⟨⟨t1323, t1326⟩, A50, H⟩ := H
  (try dsimp -simprocs only at H)
  have A5 := Aside0.mk A50
  clear A50
  have HC6 := Aside0.mk H
  clear H
  go_enter Tryd.func16, Tryd.ntmps16
  go_upto_region 4 with (first | ((with_reducible refine gate_dst (N := 3) rfl ?_); (try (refine gate_guard (by rfl) ?_; dsimp only)); refine box_event ?hg (N := 3) ?hd (cs := #[.slice A1_0 l1_0.length c1_0, .slice A1_1 l1_1.length c1_1]) (t := 98) ?hr ?_; (case hd => rfl); (case hg => rfl); (case hr => first | (go_simp; done) | (go_simp; rfl)); intro gb1321 hg w7 hbox hb; have BK1321 := Aside0.mk (hbox); have GW1321 := geS hg; have GE1321 := geS hg; replace HB := bst hb; clear hb hbox hg) | ((with_reducible refine gc 59 rfl ?_); refine gl (some 11) #[] Tryd.func59 ?_; (with_reducible refine (whirligiglaw05_anchor.calls k  true _ ?side1 A3.out).mono ?_); (case side1 => exact Laid.below HLD.out qB); rintro e w8 ⟨rfl, hb⟩; refine ⟨_, rfl, ?_⟩; replace BK1321 := kb gb1321 hb; replace HB := bst hb; (try clear hb); obtain ⟨hcz9_0, hcz9_1, hfz9_0, hfz9_1⟩ := cells2 BK1321.out) | ((with_reducible refine gc 60 rfl ?_); refine gl (some 15) #[.agg #[.slice A1_0 l1_0.length c1_0, .slice A1_1 l1_1.length c1_1]] Tryd.func60 ?_; (with_reducible refine (whirligiglaw05_cells.calls k _ _ l1_0 _ _ l1_1 t1323 t1326 _ ?side1 ?side2 ?side3 ?side4 A5.out).mono ?_); (case side1 => exact qC); (case side2 => exact HC1_0.out); (case side3 => exact qC); (case side4 => exact HC1_1.out); rintro e w10 ⟨v1324, rfl, ho0, hb⟩; refine ⟨_, rfl, ?_⟩; have HO1325 := Aside0.mk (Kd.R_lower ho0 (below_size qB)); replace BK1321 := kb gb1321 hb; replace HB := bst hb; (try clear hb); (try clear ho0)))
  (try simp only [Act.put, List.setIfInBounds_toArray, List.set_cons_zero, List.set_cons_succ])
  go_cut [28] (fun v28 wc => ∃ (kq : Nat) (x28_5 : Bool), v28 = .bool x28_5 ∧ Aside0 (whirligiglaw05_EvalForms.j0 kq l0 x28_5 l1_0 l1_1 = some r) ∧ Aside0 (kq ≤ k) ∧ Aside0 (wc.heap[gb1321]? = some (.cells #[(.slice A1_0 l1_0.length c1_0), (.slice A1_1 l1_1.length c1_1)] 98 (0, 0))) ∧ Aside0 (Below w.heap.size w wc))
  case first =>
   have H := HC6.out
   clear HC6
   by_cases c11 : t1326 = true
   ·subst c11
    rw [if_pos rfl] at H
    by_cases c12 : (l0.length : Int) > 100
    ·rw [if_pos c12] at H
     have c12b0 := decide_eq_true c12
     have c12b1 : decide (100 < l0.length) = true := decide_eq_true (by omega)
     clear c12
     (first | rw [c12b0] | (simp only [i64_w, i32_w]; rw [c12b0]) | skip)
     have H' := Aside0.mk H
     clear H
     go_wp2
     go_meet
     case rel => exact ⟨_, (true), (by first | rfl | (simp; done) | (simp [*]; done)), H', ⟨by first | omega | exact Nat.le_refl _⟩, ⟨qK⟩, ⟨qB⟩⟩
    ·rw [if_neg c12] at H
     have c12b0 := decide_eq_false c12
     have c12b1 : decide (100 < l0.length) = false := decide_eq_false (by omega)
     clear c12
     (first | rw [c12b0] | (simp only [i64_w, i32_w]; rw [c12b0]) | skip)
     replace H := Option.bind_eq_some_iff.mp H
     obtain ⟨t1327, A130, H⟩ := H
     (try dsimp -simprocs only at H)
     have A13 := Aside0.mk A130
     clear A130
     have H' := Aside0.mk H
     clear H
     go_wp2_with (first | (go_at_call 58; (with_reducible refine (expr_Expr_Right.calls k _ _ l0 t1327 _ ?side1 ?side2 ?side3 A13.out).mono ?_); (case side1 => exact qC); (case side2 => exact HC0.out); (case side3 => exact Laid.below HLD.out qB); rintro e w14 ⟨rfl, hb⟩; replace BK1321 := kb gb1321 hb; replace HO1325 := rb HO1325 hb; replace HB := bst hb; (try clear hb)))
     go_meet
     case rel => exact ⟨_, (t1327), (by first | rfl | (simp; done) | (simp [*]; done)), H', ⟨by first | omega | exact Nat.le_refl _⟩, ⟨qK⟩, ⟨qB⟩⟩
   ·replace c11 := Bool.eq_false_iff.mpr c11
    subst c11
    rw [if_neg (show ¬ (false = true) by decide)] at H
    have H' := Aside0.mk H
    clear H
    go_wp2
    go_meet
    case rel => exact ⟨_, (true), (by first | rfl | (simp; done) | (simp [*]; done)), H', ⟨by first | omega | exact Nat.le_refl _⟩, ⟨qK⟩, ⟨qB⟩⟩
  case rest =>
   clear HC6
   try clear c1
   try clear p2
   try clear c4
   try clear c5
   try clear c6
   try clear c11
   try clear c12
   try clear c12b0
   try clear c12b1
   try clear hcz9_0 hcz9_1 hfz9_0 hfz9_1
   obtain ⟨kq, x28_5, rfl, HA, HJ5, BK1321, HB⟩ := hcut
   cases kq with
   | zero => exact absurd HA.out (by simp [whirligiglaw05_EvalForms.j0])
   | succ kj5 =>
    have H := HA.out
    clear HA
    simp only [whirligiglaw05_EvalForms.j0] at H
    by_cases c15 : x28_5 = true
    ·subst c15
     rw [if_pos rfl] at H
     obtain rfl := Option.some.inj H
     go_wp2
     go_ret
     exact ⟨qR, qB⟩
    ·replace c15 := Bool.eq_false_iff.mpr c15
     subst c15
     rw [if_neg (show ¬ (false = true) by decide)] at H
     replace H := Option.bind_eq_some_iff.mp H
     obtain ⟨⟨t1328, t1329, t1330, t1331⟩, A160, H⟩ := H
     (try dsimp -simprocs only at H)
     have A16 := Aside0.mk A160
     clear A160
     replace H := Option.bind_eq_some_iff.mp H
     obtain ⟨⟨t1333, t1334⟩, A170, H⟩ := H
     (try dsimp -simprocs only at H)
     have A17 := Aside0.mk A170
     clear A170
     by_cases c18 : (t1328 == 0 && (t1329 == 0 && (t1330.toList == ([] : List UInt8)))) = true
     ·rw [if_pos c18] at H
      have c18b0 : (t1328 == 0 && (t1329 == 0 && (t1330.toList == ([] : List UInt8)))) = true := c18
      (try (have c18b1 : decide (t1328 = 0 && (t1329 == 0 && (t1330.toList == ([] : List UInt8)))) = true := by simpa using c18))
      (try (have c18b2 : (t1328 == 0 && (t1329 == 0 && (t1330.toList == ([] : List UInt8)))) = true := by simpa using c18))
      have c18n := c18b0
      simp only [eq_nil_isEmpty] at c18n
      clear c18
      by_cases c19 : t1331 = 11
      ·rw [if_pos c19] at H
       have c19b0 := beq_iff_eq.mpr c19
       have c19b1 := bne_eq_false_iff_eq.mpr c19
       clear c19
       by_cases c20 : t1333 = true
       ·subst c20
        rw [if_pos rfl] at H
        obtain rfl := Option.some.inj H
        obtain ⟨hcz21_0, hcz21_1, hfz21_0, hfz21_1⟩ := cells2 BK1321.out
        go_wp2_with (first | ((with_reducible refine gc 61 rfl ?_); refine gl (some 32) #[.slice A0 l0.length c0, .agg #[.slice A1_0 l1_0.length c1_0, .slice A1_1 l1_1.length c1_1]] Tryd.func61 ?_; (with_reducible refine (eval_Eval.calls kj5 _ _ l0 _ _ l1_0 _ _ l1_1 t1328 t1329 t1330 t1331 _ ?side1 ?side2 ?side3 ?side4 ?side5 ?side6 ?side7 A16.out).mono ?_); (case side1 => exact qC); (case side2 => exact HC0.out); (case side3 => exact qC); (case side4 => exact HC1_0.out); (case side5 => exact qC); (case side6 => exact HC1_1.out); (case side7 => exact Laid.below HLD.out qB); rintro e w22 ⟨rfl, hb⟩; refine ⟨_, rfl, ?_⟩; replace BK1321 := kb gb1321 hb; replace HB := bst hb; (try clear hb)) | ((with_reducible refine gate_dst (N := 7) rfl ?_); (try (refine gate_guard (by rfl) ?_; dsimp only)); refine box_event ?hg (N := 7) ?hd (cs := #[.int .i64 0, .int .i64 0, .string (⟨#[]⟩ : ByteArray)]) (t := 103) ?hr ?_; (case hd => rfl); (case hg => rfl); (case hr => first | (go_simp; done) | (go_simp; rfl)); intro gb1332 hg w23 hbox hb; have BK1332 := Aside0.mk (hbox); have GW1332 := geS hg; have GE1332 := geS hg; have NB1321_1332 := neS gb1321 hg; have NB1332_1321 := neT gb1321 hg; replace BK1321 := kb gb1321 hb; replace HB := bst hb; clear hb hbox hg; have hnb24 := NB1332_1321.out; have hnc24 := NB1321_1332.out; obtain ⟨hcz25_0, hcz25_1, hcz25_2, hfz25_0, hfz25_1, hfz25_2⟩ := cells3 BK1332.out; obtain ⟨hcz26_0, hcz26_1, hfz26_0, hfz26_1⟩ := cells2 BK1321.out) | ((with_reducible refine gc 64 rfl ?_); refine gl (some 38) #[.slice A0 l0.length c0, .agg #[.slice A1_0 l1_0.length c1_0, .slice A1_1 l1_1.length c1_1]] Tryd.func64 ?_; (with_reducible refine (eval_Holds.calls kj5 _ _ l0 _ _ l1_0 _ _ l1_1 true t1334 _ ?side1 ?side2 ?side3 ?side4 ?side5 ?side6 ?side7 A17.out).mono ?_); (case side1 => exact Kd.C_below HR0.out qB); (case side2 => exact HC0.out); (case side3 => exact Kd.C_below HR1_0.out qB); (case side4 => exact HC1_0.out); (case side5 => exact Kd.C_below HR1_1.out qB); (case side6 => exact HC1_1.out); (case side7 => exact Laid.below HLD.out qB); rintro e w27 ⟨rfl, hb⟩; refine ⟨_, rfl, ?_⟩; replace BK1321 := kb gb1321 hb; replace BK1332 := kp gb1332 (.cells #[.int .i64 t1328, .int .i64 t1329, .string t1330] 103 (0, 0)) hb; replace HB := bst hb; (try clear hb); obtain ⟨hcz28_0, hcz28_1, hcz28_2, hfz28_0, hfz28_1, hfz28_2⟩ := cells3 BK1332.out))
        go_ret
        exact ⟨qR, qB⟩
       ·replace c20 := Bool.eq_false_iff.mpr c20
        subst c20
        rw [if_neg (show ¬ (false = true) by decide)] at H
        obtain rfl := Option.some.inj H
        obtain ⟨hcz29_0, hcz29_1, hfz29_0, hfz29_1⟩ := cells2 BK1321.out
        go_wp2_with (first | ((with_reducible refine gc 61 rfl ?_); refine gl (some 32) #[.slice A0 l0.length c0, .agg #[.slice A1_0 l1_0.length c1_0, .slice A1_1 l1_1.length c1_1]] Tryd.func61 ?_; (with_reducible refine (eval_Eval.calls kj5 _ _ l0 _ _ l1_0 _ _ l1_1 t1328 t1329 t1330 t1331 _ ?side1 ?side2 ?side3 ?side4 ?side5 ?side6 ?side7 A16.out).mono ?_); (case side1 => exact qC); (case side2 => exact HC0.out); (case side3 => exact qC); (case side4 => exact HC1_0.out); (case side5 => exact qC); (case side6 => exact HC1_1.out); (case side7 => exact Laid.below HLD.out qB); rintro e w30 ⟨rfl, hb⟩; refine ⟨_, rfl, ?_⟩; replace BK1321 := kb gb1321 hb; replace HB := bst hb; (try clear hb)) | ((with_reducible refine gate_dst (N := 7) rfl ?_); (try (refine gate_guard (by rfl) ?_; dsimp only)); refine box_event ?hg (N := 7) ?hd (cs := #[.int .i64 0, .int .i64 0, .string (⟨#[]⟩ : ByteArray)]) (t := 103) ?hr ?_; (case hd => rfl); (case hg => rfl); (case hr => first | (go_simp; done) | (go_simp; rfl)); intro gb1332 hg w31 hbox hb; have BK1332 := Aside0.mk (hbox); have GW1332 := geS hg; have GE1332 := geS hg; have NB1321_1332 := neS gb1321 hg; have NB1332_1321 := neT gb1321 hg; replace BK1321 := kb gb1321 hb; replace HB := bst hb; clear hb hbox hg; have hnb32 := NB1332_1321.out; have hnc32 := NB1321_1332.out; obtain ⟨hcz33_0, hcz33_1, hcz33_2, hfz33_0, hfz33_1, hfz33_2⟩ := cells3 BK1332.out; obtain ⟨hcz34_0, hcz34_1, hfz34_0, hfz34_1⟩ := cells2 BK1321.out) | ((with_reducible refine gc 64 rfl ?_); refine gl (some 38) #[.slice A0 l0.length c0, .agg #[.slice A1_0 l1_0.length c1_0, .slice A1_1 l1_1.length c1_1]] Tryd.func64 ?_; (with_reducible refine (eval_Holds.calls kj5 _ _ l0 _ _ l1_0 _ _ l1_1 false t1334 _ ?side1 ?side2 ?side3 ?side4 ?side5 ?side6 ?side7 A17.out).mono ?_); (case side1 => exact Kd.C_below HR0.out qB); (case side2 => exact HC0.out); (case side3 => exact Kd.C_below HR1_0.out qB); (case side4 => exact HC1_0.out); (case side5 => exact Kd.C_below HR1_1.out qB); (case side6 => exact HC1_1.out); (case side7 => exact Laid.below HLD.out qB); rintro e w35 ⟨rfl, hb⟩; refine ⟨_, rfl, ?_⟩; replace BK1321 := kb gb1321 hb; replace BK1332 := kp gb1332 (.cells #[.int .i64 t1328, .int .i64 t1329, .string t1330] 103 (0, 0)) hb; replace HB := bst hb; (try clear hb); obtain ⟨hcz36_0, hcz36_1, hcz36_2, hfz36_0, hfz36_1, hfz36_2⟩ := cells3 BK1332.out))
        go_ret
        exact ⟨qR, qB⟩
      ·rw [if_neg c19] at H
       have c19b0 := beq_eq_false_iff_ne.mpr c19
       have c19b1 := bne_iff_ne.mpr c19
       obtain rfl := Option.some.inj H
       obtain ⟨hcz37_0, hcz37_1, hfz37_0, hfz37_1⟩ := cells2 BK1321.out
       go_wp2_with (first | ((with_reducible refine gc 61 rfl ?_); refine gl (some 32) #[.slice A0 l0.length c0, .agg #[.slice A1_0 l1_0.length c1_0, .slice A1_1 l1_1.length c1_1]] Tryd.func61 ?_; (with_reducible refine (eval_Eval.calls kj5 _ _ l0 _ _ l1_0 _ _ l1_1 t1328 t1329 t1330 t1331 _ ?side1 ?side2 ?side3 ?side4 ?side5 ?side6 ?side7 A16.out).mono ?_); (case side1 => exact qC); (case side2 => exact HC0.out); (case side3 => exact qC); (case side4 => exact HC1_0.out); (case side5 => exact qC); (case side6 => exact HC1_1.out); (case side7 => exact Laid.below HLD.out qB); rintro e w38 ⟨rfl, hb⟩; refine ⟨_, rfl, ?_⟩; replace BK1321 := kb gb1321 hb; replace HB := bst hb; (try clear hb)) | ((with_reducible refine gate_dst (N := 7) rfl ?_); (try (refine gate_guard (by rfl) ?_; dsimp only)); refine box_event ?hg (N := 7) ?hd (cs := #[.int .i64 0, .int .i64 0, .string (⟨#[]⟩ : ByteArray)]) (t := 103) ?hr ?_; (case hd => rfl); (case hg => rfl); (case hr => first | (go_simp; done) | (go_simp; rfl)); intro gb1332 hg w39 hbox hb; have BK1332 := Aside0.mk (hbox); have GW1332 := geS hg; have GE1332 := geS hg; have NB1321_1332 := neS gb1321 hg; have NB1332_1321 := neT gb1321 hg; replace BK1321 := kb gb1321 hb; replace HB := bst hb; clear hb hbox hg; have hnb40 := NB1332_1321.out; have hnc40 := NB1321_1332.out; obtain ⟨hcz41_0, hcz41_1, hcz41_2, hfz41_0, hfz41_1, hfz41_2⟩ := cells3 BK1332.out; obtain ⟨hcz42_0, hcz42_1, hfz42_0, hfz42_1⟩ := cells2 BK1321.out) | ((with_reducible refine gc 64 rfl ?_); refine gl (some 38) #[.slice A0 l0.length c0, .agg #[.slice A1_0 l1_0.length c1_0, .slice A1_1 l1_1.length c1_1]] Tryd.func64 ?_; (with_reducible refine (eval_Holds.calls kj5 _ _ l0 _ _ l1_0 _ _ l1_1 t1333 t1334 _ ?side1 ?side2 ?side3 ?side4 ?side5 ?side6 ?side7 A17.out).mono ?_); (case side1 => exact Kd.C_below HR0.out qB); (case side2 => exact HC0.out); (case side3 => exact Kd.C_below HR1_0.out qB); (case side4 => exact HC1_0.out); (case side5 => exact Kd.C_below HR1_1.out qB); (case side6 => exact HC1_1.out); (case side7 => exact Laid.below HLD.out qB); rintro e w43 ⟨rfl, hb⟩; refine ⟨_, rfl, ?_⟩; replace BK1321 := kb gb1321 hb; replace BK1332 := kp gb1332 (.cells #[.int .i64 t1328, .int .i64 t1329, .string t1330] 103 (0, 0)) hb; replace HB := bst hb; (try clear hb); obtain ⟨hcz44_0, hcz44_1, hcz44_2, hfz44_0, hfz44_1, hfz44_2⟩ := cells3 BK1332.out))
       go_ret
       exact ⟨qR, qB⟩
     ·rw [if_neg c18] at H
      have c18b0 : (t1328 == 0 && (t1329 == 0 && (t1330.toList == ([] : List UInt8)))) = false := by simpa using c18
      (try (have c18b1 : decide (t1328 = 0 && (t1329 == 0 && (t1330.toList == ([] : List UInt8)))) = false := by simpa using c18))
      (try (have c18b2 : (t1328 == 0 && (t1329 == 0 && (t1330.toList == ([] : List UInt8)))) = false := by simpa using c18))
      (try (have c18b3 : ¬ (t1328 = 0 && (t1329 == 0 && (t1330.toList == ([] : List UInt8)))) := by simpa using c18))
      have c18n := c18b0
      simp only [eq_nil_isEmpty] at c18n
      clear c18
      obtain rfl := Option.some.inj H
      obtain ⟨hcz45_0, hcz45_1, hfz45_0, hfz45_1⟩ := cells2 BK1321.out
      go_wp2_with (first | ((with_reducible refine gc 61 rfl ?_); refine gl (some 32) #[.slice A0 l0.length c0, .agg #[.slice A1_0 l1_0.length c1_0, .slice A1_1 l1_1.length c1_1]] Tryd.func61 ?_; (with_reducible refine (eval_Eval.calls kj5 _ _ l0 _ _ l1_0 _ _ l1_1 t1328 t1329 t1330 t1331 _ ?side1 ?side2 ?side3 ?side4 ?side5 ?side6 ?side7 A16.out).mono ?_); (case side1 => exact qC); (case side2 => exact HC0.out); (case side3 => exact qC); (case side4 => exact HC1_0.out); (case side5 => exact qC); (case side6 => exact HC1_1.out); (case side7 => exact Laid.below HLD.out qB); rintro e w46 ⟨rfl, hb⟩; refine ⟨_, rfl, ?_⟩; replace BK1321 := kb gb1321 hb; replace HB := bst hb; (try clear hb)) | ((with_reducible refine gate_dst (N := 7) rfl ?_); (try (refine gate_guard (by rfl) ?_; dsimp only)); refine box_event ?hg (N := 7) ?hd (cs := #[.int .i64 0, .int .i64 0, .string (⟨#[]⟩ : ByteArray)]) (t := 103) ?hr ?_; (case hd => rfl); (case hg => rfl); (case hr => first | (go_simp; done) | (go_simp; rfl)); intro gb1332 hg w47 hbox hb; have BK1332 := Aside0.mk (hbox); have GW1332 := geS hg; have GE1332 := geS hg; have NB1321_1332 := neS gb1321 hg; have NB1332_1321 := neT gb1321 hg; replace BK1321 := kb gb1321 hb; replace HB := bst hb; clear hb hbox hg; have hnb48 := NB1332_1321.out; have hnc48 := NB1321_1332.out; obtain ⟨hcz49_0, hcz49_1, hcz49_2, hfz49_0, hfz49_1, hfz49_2⟩ := cells3 BK1332.out; obtain ⟨hcz50_0, hcz50_1, hfz50_0, hfz50_1⟩ := cells2 BK1321.out) | ((with_reducible refine gc 64 rfl ?_); refine gl (some 38) #[.slice A0 l0.length c0, .agg #[.slice A1_0 l1_0.length c1_0, .slice A1_1 l1_1.length c1_1]] Tryd.func64 ?_; (with_reducible refine (eval_Holds.calls kj5 _ _ l0 _ _ l1_0 _ _ l1_1 t1333 t1334 _ ?side1 ?side2 ?side3 ?side4 ?side5 ?side6 ?side7 A17.out).mono ?_); (case side1 => exact Kd.C_below HR0.out qB); (case side2 => exact HC0.out); (case side3 => exact Kd.C_below HR1_0.out qB); (case side4 => exact HC1_0.out); (case side5 => exact Kd.C_below HR1_1.out qB); (case side6 => exact HC1_1.out); (case side7 => exact Laid.below HLD.out qB); rintro e w51 ⟨rfl, hb⟩; refine ⟨_, rfl, ?_⟩; replace BK1321 := kb gb1321 hb; replace BK1332 := kp gb1332 (.cells #[.int .i64 t1328, .int .i64 t1329, .string t1330] 103 (0, 0)) hb; replace HB := bst hb; (try clear hb); obtain ⟨hcz52_0, hcz52_1, hcz52_2, hfz52_0, hfz52_1, hfz52_2⟩ := cells3 BK1332.out))
      go_ret
      exact ⟨qR, qB⟩
 ·replace c4 := Bool.eq_false_iff.mpr c4
  subst c4
  rw [if_neg (show ¬ (false = true) by decide)] at H
  obtain rfl := Option.some.inj H
  go_enter Tryd.func16, Tryd.ntmps16
  go_wp2_with (first | ((with_reducible refine gate_dst (N := 3) rfl ?_); (try (refine gate_guard (by rfl) ?_; dsimp only)); refine box_event ?hg (N := 3) ?hd (cs := #[.slice A1_0 l1_0.length c1_0, .slice A1_1 l1_1.length c1_1]) (t := 98) ?hr ?_; (case hd => rfl); (case hg => rfl); (case hr => first | (go_simp; done) | (go_simp; rfl)); intro gb1321 hg w53 hbox hb; have BK1321 := Aside0.mk (hbox); have GW1321 := geS hg; have GE1321 := geS hg; replace HB := bst hb; clear hb hbox hg) | ((with_reducible refine gc 59 rfl ?_); refine gl (some 11) #[] Tryd.func59 ?_; (with_reducible refine (whirligiglaw05_anchor.calls k  false _ ?side1 A3.out).mono ?_); (case side1 => exact Laid.below HLD.out qB); rintro e w54 ⟨rfl, hb⟩; refine ⟨_, rfl, ?_⟩; replace BK1321 := kb gb1321 hb; replace HB := bst hb; (try clear hb)))
  go_ret
  exact ⟨qR, qB⟩
end Go.Proofs.YtbngfhlciebeeaaDoor.L
end
section
namespace Go.Proofs.YtbngfhlciebeeaaDoor.Sp
set_option linter.unusedVariables false
set_option linter.unusedSimpArgs false
open Go.RowKit Go.Proofs.YtbngfhlciebeeaaDoorW.PrintWords Go.Proofs.YtbngfhlciebeeaaDoorW.PrintMore Go.Proofs.YtbngfhlciebeeaaDoor.L
theorem EvalForms_ev (l : List S156) (hl : Opn.okE l) (vs : List S116) (ss : List ByteArray) (hv : Opn.okCs vs ∧ Opn.okSs ss) : Ev (fun k => whirligiglaw05_EvalForms.f k l vs ss) true := by
  unfold whirligiglaw05_EvalForms.f
  refine Ev.bind anchor05_ev (Ev.pos rfl ?_)
  obtain ⟨⟨out, b⟩, hr, _⟩ := cells05_is vs ss hv.1.1
  refine Ev.bind hr ?_
  have ht : Ev (fun k => whirligiglaw05_EvalForms.j0 k l true vs ss) true := Ev.succ (by simp only [whirligiglaw05_EvalForms.j0]; exact Ev.pos trivial (Ev.some rfl))
  cases b with
  | false => exact Ev.neg (by simp) ht
  | true =>
    refine Ev.pos rfl ?_
    by_cases g : (l.length : Int) > 100
    · exact Ev.pos g ht
    · obtain ⟨t, hR⟩ := right_total l (by omega) hl.2
      refine Ev.neg g (Ev.bind hR ?_)
      cases t with
      | true => exact ht
      | false =>
        have hE : Ev (fun k => eval_Eval.f k l vs ss) (0, 0, (⟨#[]⟩ : ByteArray), 11) := by
          unfold eval_Eval.f
          exact Ev.bind hR (Ev.neg (by decide) (Ev.some rfl))
        have hH := Holds_err hE (by decide)
        refine Ev.succ ?_
        simp only [whirligiglaw05_EvalForms.j0]
        exact Ev.neg (by decide) (Ev.bind hE (Ev.bind hH (Ev.pos (by rw [nil_toList]; rfl) (Ev.pos rfl (Ev.neg (by decide) (Ev.some rfl))))))
end Go.Proofs.YtbngfhlciebeeaaDoor.Sp
end
