/- Printed and hand-written steps towards the row (KindMore), those that it reaches. -/
import Derived.Test.YtbngfhlciebeeaaDoorKindMoreG18
import Derived.Test.YtbngfhlciebeeaaDoorKindMoreG27
import Derived.Test.YtbngfhlciebeeaaDoorKindMoreG4
import Derived.Test.YtbngfhlciebeeaaDoorKindMoreG5
import Derived.Test.YtbngfhlciebeeaaDoorKindMoreG12
import Derived.Test.YtbngfhlciebeeaaDoorKindMoreG21
import Derived.Test.YtbngfhlciebeeaaDoorKindMoreG26
section
namespace Go.Proofs.YtbngfhlciebeeaaDoor.L
set_option linter.unusedVariables false
set_option linter.unusedSimpArgs false
open Go.RowKit Go.Proofs.YtbngfhlciebeeaaDoorW.PrintWords Go.Proofs.YtbngfhlciebeeaaDoorW.PrintLast Go.Proofs.YtbngfhlciebeeaaDoorW.PrintMore
def expr_Parse.f (k : Nat) (l : List S32) (a1 : Int) : Option (List S156 × Int × Int) :=
  if l.length ≤ 1000000 then
    (if 0 ≤ a1 ∧ a1 ≤ (l.length : Int) then
      (pa k l 0 a1.toNat []).bind fun r => (match r with | none => some ([], 0, 11) | some (i2, e2) => (expr_Expr_Size.f k e2).bind fun z => if z = 0 then some (e2, (i2 : Int), 0) else some ([], 0, z))
    else some ([], 0, 11))
  else none
theorem IsP.new {w : World} {A : Option Addr} {c : Nat} {l : List S32} {i : Int} (hr : Kd.C k32 w A l.length l) (hc : l.length ≤ c) : IsP w (w.alloc (.cells #[.slice A l.length c, .int .i64 i, .slice none 0 0] 174)) w.heap.size A c l i [] :=
  ⟨_, blk_new _ _, Nat.le_refl _, Kd.R_nil _ _ _ _ _, hr, hc, below_alloc (Below.refl _ _) _⟩
set_option maxHeartbeats 8000000 in
set_option maxRecDepth 100000 in
theorem parse_bad (A0 : Option Addr) (c0 : Nat) (l0 : List S32) (a1 : Int) (w : World) (h : ¬ (0 ≤ a1 ∧ a1 ≤ (l0.length : Int))) :
    Calls Tryd.prog 90 #[.slice A0 l0.length c0, .int .i64 a1] w fun e w' => e = .returned (.tuple #[.slice none 0 0, .int .i64 0, .int .i64 11]) ∧ Below w.heap.size w w' := by
  by_cases h0 : a1 < 0
  · have b0 : decide (a1 < 0) = true := decide_eq_true h0
    clear h0 h
    go_enter Tryd.func90, Tryd.ntmps90
    go_wp2
    go_ret3
    exact ⟨rfl, Below.refl _ _⟩
  · have b0 : decide (a1 < 0) = false := decide_eq_false h0
    have b1 : decide (a1 > (l0.length : Int)) = true := decide_eq_true (by omega)
    have b2 : decide ((l0.length : Int) < a1) = true := decide_eq_true (by omega)
    clear h0 h
    go_enter Tryd.func90, Tryd.ntmps90
    go_wp2
    go_ret3
    exact ⟨rfl, Below.refl _ _⟩
set_option maxHeartbeats 8000000 in
set_option maxRecDepth 100000 in
theorem expr_Parse.calls (k : Nat) (A0 : Option Addr) (c0 : Nat) (l0 : List S32) (a1 : Int) (r1 : List S156) (r2 r3 : Int) (w : World) (hr0 : Kd.C k32 w A0 l0.length l0) (hc0 : l0.length ≤ c0) (h : expr_Parse.f k l0 a1 = some (r1, r2, r3)) :
    Calls Tryd.prog 90 #[.slice A0 l0.length c0, .int .i64 a1] w fun e w' => ∃ v0_ : Value, e = .returned (.tuple #[v0_, .int .i64 r2, .int .i64 r3]) ∧ Kd.R k156 156 w' w.heap.size (fun _ => True) v0_ r1 ∧ Below w.heap.size w w' := by
  unfold expr_Parse.f at h
  by_cases hl : l0.length ≤ 1000000
  · rw [if_pos hl] at h
    by_cases hh : 0 ≤ a1 ∧ a1 ≤ (l0.length : Int)
    · rw [if_pos hh] at h
      obtain ⟨i, rfl⟩ := Int.eq_ofNat_of_zero_le hh.1
      obtain ⟨r, hr, h⟩ := Option.bind_eq_some_iff.1 h
      rw [Int.toNat_natCast] at hr
      have hi : i ≤ l0.length := by omega
      have S := Aside0.mk ((pa_calls (w0 := w) (g := w.heap.size) (A := A0) (c := c0) hl k).2.2 0 (by omega) i [] r hr (by simp) hi)
      have V := Aside0.mk (fun i2 e2 (hr2 : r = some (i2, e2)) => pa_inv k l0 0 i [] i2 e2 (by rw [hr, hr2]) hi)
      have P := Aside0.mk (IsP.new (i := (i : Int)) hr0 hc0)
      have HH := Aside0.mk h
      have b0 : decide ((i : Int) < 0) = false := decide_eq_false (by omega)
      have b1 : decide (l0.length < i) = false := decide_eq_false (by omega)
      clear hr h hr0 hc0 hh hi
      cases r with
      | none =>
        have h := HH.out
        simp only [Option.some.injEq, Prod.mk.injEq] at h
        obtain ⟨rfl, rfl, rfl⟩ := h
        go_enter Tryd.func90, Tryd.ntmps90
        go_wp2_with (go_at_call 115; refine (par_none S.out P.out).mono ?_)
        rintro x w2 rfl h_
        have B2 := Aside0.mk h_
        clear h_
        go_wp2
        go_ret3
        exact ⟨_, rfl, Kd.R_nil _ _ _ _ _, B2.out⟩
      | some p =>
        obtain ⟨i2, e2⟩ := p
        obtain ⟨v1, v2, v3⟩ := V.out i2 e2 rfl
        have h := HH.out
        obtain ⟨z, hz, h⟩ := Option.bind_eq_some_iff.1 h
        have HZ := Aside0.mk hz
        have HH2 := Aside0.mk h
        clear HH V hz h v1 v2 v3
        go_enter Tryd.func90, Tryd.ntmps90
        go_wp2_with (go_at_call 115; refine (par_some S.out P.out).mono ?_)
        rintro x w2 rfl h_ k_
        have H2 := Aside0.mk h_
        clear h_ k_ S P
        have h3 := H2.out
        obtain ⟨ve, q, _, r, _, _, bl⟩ := h3
        obtain ⟨A2, c2, ev⟩ := Kd.R_slice r
        subst ev
        have R2 := Aside0.mk r
        have B2 := Aside0.mk bl
        have Q2 := Aside0.mk q
        clear r bl q H2
        have d2 := blk_cell Q2.out 2
        go_wp2_with (go_at_call 95; refine (expr_Expr_Size.calls k A2 c2 e2 z _ (Kd.R_reads' R2.out).2.2 (Kd.R_reads' R2.out).2.1 HZ.out).mono ?_)
        rintro x w3 ⟨rfl, hb⟩
        have R3 := Aside0.mk (Kd.R_below R2.out hb)
        have B3 := Aside0.mk (below_step B2.out hb)
        have Q3 := Aside0.mk (blk_below Q2.out hb)
        clear hb R2 B2 Q2 d2
        have h := HH2.out
        by_cases hz0 : z = 0
        · rw [if_pos hz0] at h
          subst hz0
          have d1 := blk_cell Q3.out 1
          have d2 := blk_cell Q3.out 2
          simp only [Option.some.injEq, Prod.mk.injEq] at h
          obtain ⟨rfl, rfl, rfl⟩ := h
          go_wp2
          go_quiet (fail)
          go_wp2
          go_ret3
          exact ⟨_, rfl, Kd.R_mono (Kd.R_drewN R3.out _) (fun _ _ => trivial), pw_below_drewN B3.out _⟩
        · rw [if_neg hz0] at h
          have b3 : (z != 0) = true := bne_iff_ne.2 hz0
          clear hz0
          simp only [Option.some.injEq, Prod.mk.injEq] at h
          obtain ⟨rfl, rfl, rfl⟩ := h
          go_wp2
          go_ret3
          exact ⟨_, rfl, Kd.R_nil _ _ _ _ _, B3.out⟩
    · rw [if_neg hh] at h
      simp only [Option.some.injEq, Prod.mk.injEq] at h
      obtain ⟨rfl, rfl, rfl⟩ := h
      exact (parse_bad A0 c0 l0 a1 w hh).mono fun e w' ⟨he, hb⟩ => ⟨_, he, Kd.R_nil _ _ _ _ _, hb⟩
  · rw [if_neg hl] at h; cases h
end Go.Proofs.YtbngfhlciebeeaaDoor.L
end
section
namespace Go.Proofs.YtbngfhlciebeeaaDoor.L
open Go.RowKit Go.Proofs.YtbngfhlciebeeaaDoorW.PrintWords Go.Proofs.YtbngfhlciebeeaaDoorW.PrintLast Go.Proofs.YtbngfhlciebeeaaDoorW.PrintMore
attribute [local go_sem] max2_int min2_int max_two min_two max_three min_three max_four min_four   -- for this text's walks alone
set_option linter.unusedVariables false
set_option linter.unusedSimpArgs false
def expr_Read.f (k : Nat) (a0 : ByteArray) : Option ((List (S156)) × Int) := (tok_Lex.f k a0).bind fun bt761 => (if bt761.2.1 = 0 then ((expr_Parse.f k bt761.1 0).bind fun bt766 => (if bt766.2.2 = 0 then (if bt766.2.1 < (bt761.1.length : Int) then (some (([] : List (S156)), 11)) else (some (bt766.1, 0))) else (some (([] : List (S156)), bt766.2.2)))) else (some (([] : List (S156)), bt761.2.1)))
set_option maxHeartbeats 8000000 in
set_option maxRecDepth 100000 in
theorem expr_Read.calls (k : Nat) (a0 : ByteArray) (r1 : List (S156)) (r2 : Int) (w : World) (hL : Laid w) (h : expr_Read.f k a0 = some (r1, r2)) :
  Calls Tryd.prog 53 #[.string a0] w fun e w' => ∃ v0_ : Value, e = .returned (.tuple #[v0_, .int .i64 r2]) ∧ Kd.R k156 156 w' w.heap.size (fun _ => True) v0_ r1 ∧ Below w.heap.size w w' := by
 have HB := Aside0.mk (Below.refl w.heap.size w)
 have HLD := Aside0.mk hL
 clear hL
 have H : ((tok_Lex.f k a0).bind fun bt761 => (if bt761.2.1 = 0 then ((expr_Parse.f k bt761.1 0).bind fun bt766 => (if bt766.2.2 = 0 then (if bt766.2.1 < (bt761.1.length : Int) then (some (([] : List (S156)), 11)) else (some (bt766.1, 0))) else (some (([] : List (S156)), bt766.2.2)))) else (some (([] : List (S156)), bt761.2.1)))) = some (r1, r2) := h
 clear h
 replace H := Option.bind_eq_some_iff.mp H
 obtain ⟨⟨t761, t762, t763⟩, A20, H⟩ := H
 (try dsimp -simprocs only at H)
 have A2 := Aside0.mk A20
 clear A20
 by_cases c3 : t762 = 0
 ·rw [if_pos c3] at H
  have c3b0 := beq_iff_eq.mpr c3
  have c3b1 := bne_eq_false_iff_eq.mpr c3
  clear c3
  replace H := Option.bind_eq_some_iff.mp H
  obtain ⟨⟨t766, t767, t768⟩, A40, H⟩ := H
  (try dsimp -simprocs only at H)
  have A4 := Aside0.mk A40
  clear A40
  by_cases c5 : t768 = 0
  ·rw [if_pos c5] at H
   have c5b0 := beq_iff_eq.mpr c5
   have c5b1 := bne_eq_false_iff_eq.mpr c5
   clear c5
   replace H := iD H
   rcases H with ⟨c6b0, H⟩ | ⟨c6b0, H⟩
   ·simp only [Option.some.injEq, Prod.mk.injEq] at H
    obtain ⟨rfl, rfl⟩ := H
    go_enter Tryd.func53, Tryd.ntmps53
    go_wp2_with (first | ((with_reducible refine gc 20 rfl ?_); refine gl (some 11) #[.string a0] Tryd.func20 ?_; (with_reducible refine (tok_Lex.calls k a0 t761 t762 t763 _ ?side1 A2.out).mono ?_); (case side1 => exact Laid.below HLD.out qB); rintro e w7 ⟨v764, rfl, ho0, hb⟩; refine ⟨_, rfl, ?_⟩; have HO765 := Aside0.mk (Kd.R_lower ho0 (below_size qB)); replace HB := bst hb; (try clear hb); (try clear ho0); obtain ⟨Ao8, co8, eo8⟩ := Kd.R_slice HO765.out; subst eo8) | ((with_reducible refine gc 90 rfl ?_); refine gl (some 20) #[.slice Ao8 t761.length co8, .int .i64 0] Tryd.func90 ?_; (with_reducible refine (expr_Parse.calls k _ _ t761 0 t766 t767 t768 _ ?side1 ?side2 A4.out).mono ?_); (case side1 => exact cr HO765); (case side2 => exact (Kd.R_reads' HO765.out).2.1); rintro e w9 ⟨v769, rfl, ho0, hb⟩; refine ⟨_, rfl, ?_⟩; have HO770 := Aside0.mk (Kd.R_lower ho0 (below_size qB)); replace HO765 := rb HO765 hb; replace HB := bst hb; (try clear hb); (try clear ho0)))
    go_ret2
    exact ⟨_, qR, by first | exact Kd.R_nil _ _ _ _ _ | exact Kd.N_nil _ _ _ _ _ | exact Kd.V_nil _ _ _ _ _ | exact Kd.Q_nil _ _ _ _ _ | exact Kd.S_nil _ _ _ _ _, qB⟩
   ·simp only [Option.some.injEq, Prod.mk.injEq] at H
    obtain ⟨rfl, rfl⟩ := H
    go_enter Tryd.func53, Tryd.ntmps53
    go_wp2_with (first | ((with_reducible refine gc 20 rfl ?_); refine gl (some 11) #[.string a0] Tryd.func20 ?_; (with_reducible refine (tok_Lex.calls k a0 t761 t762 t763 _ ?side1 A2.out).mono ?_); (case side1 => exact Laid.below HLD.out qB); rintro e w10 ⟨v764, rfl, ho0, hb⟩; refine ⟨_, rfl, ?_⟩; have HO765 := Aside0.mk (Kd.R_lower ho0 (below_size qB)); replace HB := bst hb; (try clear hb); (try clear ho0); obtain ⟨Ao11, co11, eo11⟩ := Kd.R_slice HO765.out; subst eo11) | ((with_reducible refine gc 90 rfl ?_); refine gl (some 20) #[.slice Ao11 t761.length co11, .int .i64 0] Tryd.func90 ?_; (with_reducible refine (expr_Parse.calls k _ _ t761 0 t766 t767 t768 _ ?side1 ?side2 A4.out).mono ?_); (case side1 => exact cr HO765); (case side2 => exact (Kd.R_reads' HO765.out).2.1); rintro e w12 ⟨v769, rfl, ho0, hb⟩; refine ⟨_, rfl, ?_⟩; have HO770 := Aside0.mk (Kd.R_lower ho0 (below_size qB)); replace HO765 := rb HO765 hb; replace HB := bst hb; (try clear hb); (try clear ho0)))
    go_ret2
    exact ⟨_, qR, by (with_reducible repeat (first | apply Kd.R_alloc | apply Kd.R_drewN | apply Kd.R_drew)); exact HO770.out, qB⟩
  ·rw [if_neg c5] at H
   have c5b0 := beq_eq_false_iff_ne.mpr c5
   have c5b1 := bne_iff_ne.mpr c5
   simp only [Option.some.injEq, Prod.mk.injEq] at H
   obtain ⟨rfl, rfl⟩ := H
   go_enter Tryd.func53, Tryd.ntmps53
   go_wp2_with (first | ((with_reducible refine gc 20 rfl ?_); refine gl (some 11) #[.string a0] Tryd.func20 ?_; (with_reducible refine (tok_Lex.calls k a0 t761 t762 t763 _ ?side1 A2.out).mono ?_); (case side1 => exact Laid.below HLD.out qB); rintro e w13 ⟨v764, rfl, ho0, hb⟩; refine ⟨_, rfl, ?_⟩; have HO765 := Aside0.mk (Kd.R_lower ho0 (below_size qB)); replace HB := bst hb; (try clear hb); (try clear ho0); obtain ⟨Ao14, co14, eo14⟩ := Kd.R_slice HO765.out; subst eo14) | ((with_reducible refine gc 90 rfl ?_); refine gl (some 20) #[.slice Ao14 t761.length co14, .int .i64 0] Tryd.func90 ?_; (with_reducible refine (expr_Parse.calls k _ _ t761 0 t766 t767 t768 _ ?side1 ?side2 A4.out).mono ?_); (case side1 => exact cr HO765); (case side2 => exact (Kd.R_reads' HO765.out).2.1); rintro e w15 ⟨v769, rfl, ho0, hb⟩; refine ⟨_, rfl, ?_⟩; have HO770 := Aside0.mk (Kd.R_lower ho0 (below_size qB)); replace HO765 := rb HO765 hb; replace HB := bst hb; (try clear hb); (try clear ho0)))
   go_ret2
   exact ⟨_, qR, by first | exact Kd.R_nil _ _ _ _ _ | exact Kd.N_nil _ _ _ _ _ | exact Kd.V_nil _ _ _ _ _ | exact Kd.Q_nil _ _ _ _ _ | exact Kd.S_nil _ _ _ _ _, qB⟩
 ·rw [if_neg c3] at H
  have c3b0 := beq_eq_false_iff_ne.mpr c3
  have c3b1 := bne_iff_ne.mpr c3
  simp only [Option.some.injEq, Prod.mk.injEq] at H
  obtain ⟨rfl, rfl⟩ := H
  go_enter Tryd.func53, Tryd.ntmps53
  go_wp2_with (first | ((with_reducible refine gc 20 rfl ?_); refine gl (some 11) #[.string a0] Tryd.func20 ?_; (with_reducible refine (tok_Lex.calls k a0 t761 t762 t763 _ ?side1 A2.out).mono ?_); (case side1 => exact Laid.below HLD.out qB); rintro e w16 ⟨v764, rfl, ho0, hb⟩; refine ⟨_, rfl, ?_⟩; have HO765 := Aside0.mk (Kd.R_lower ho0 (below_size qB)); replace HB := bst hb; (try clear hb); (try clear ho0)))
  go_ret2
  exact ⟨_, qR, by first | exact Kd.R_nil _ _ _ _ _ | exact Kd.N_nil _ _ _ _ _ | exact Kd.V_nil _ _ _ _ _ | exact Kd.Q_nil _ _ _ _ _ | exact Kd.S_nil _ _ _ _ _, qB⟩
end Go.Proofs.YtbngfhlciebeeaaDoor.L
end
section
namespace Go.Proofs.YtbngfhlciebeeaaDoor.Sp
set_option linter.unusedVariables false
set_option linter.unusedSimpArgs false
open Go.RowKit Go.Proofs.YtbngfhlciebeeaaDoorW.PrintWords Go.Proofs.YtbngfhlciebeeaaDoorW.PrintMore Go.Proofs.YtbngfhlciebeeaaDoor.L
theorem toL_inj {a b : ByteArray} : a.toList = b.toList ↔ a = b := by
  rw [ByteArray.toList_eq, ByteArray.toList_eq]
  exact ⟨ext_bytes, fun h => by rw [h]⟩
theorem nil_toList : (⟨#[]⟩ : ByteArray).toList = [] := by rw [ByteArray.toList_eq]
theorem tokenAt_short {L : List UInt8} {i : Nat} {k : Int} {t : List UInt8} {n : Int} {e : Nat} (hi : i < L.length) (h : tokenAt L i = .ok (k, t, n, e)) : k = 1 → t.length ≤ 32 := by
  intro hk
  subst hk
  unfold tokenAt at h
  split at h
  · split at h
    · cases h
    · split at h
      · cases h
      · rename_i k' e' hp
        have hle := pathGo_le L _ _ _ _ _ (pend_le (by omega)) hp
        split at h
        · cases h
        · simp only [Except.ok.injEq, Prod.mk.injEq] at h
          obtain ⟨_, rfl, _, _⟩ := h
          rw [cut_length hle.2]; omega
  · split at h
    · split at h
      · cases h
      · split at h
        · cases h
        · simp only [Except.ok.injEq, Prod.mk.injEq] at h
          omega
    · split at h
      · split at h
        · cases h
        · split at h
          · cases h
          · split at h
            · simp only [Except.ok.injEq, Prod.mk.injEq] at h
              omega
            · cases h
      · split at h
        · simp only [Except.ok.injEq, Prod.mk.injEq] at h
          omega
        · cases h
theorem lex_short (L : List UInt8) : ∀ t ∈ (lex L).1, t.kind = 1 → t.text.length ≤ 32 := lexGo_all (fun t => t.kind = 1 → t.text.length ≤ 32) L (fun i k t n e p hi h => tokenAt_short hi h) _ _ _ (by simp)
theorem name_short {s : ByteArray} (h : nameT s = true) : s.size ≤ 32 := by
  have hx := lex_short s.data.toList
  unfold nameT at h
  generalize lex s.data.toList = x at *
  obtain ⟨ts, e, p⟩ := x
  rcases ts with _ | ⟨t, _ | ⟨t2, ts⟩⟩
  · cases h
  · simp only [Bool.and_eq_true, decide_eq_true_eq] at h
    have := hx t (by simp) h.1.1.2
    rw [h.1.2, len_size] at this
    exact this
  · cases h
theorem valRight_ok {v : S103} (h : ValOk v) : val_Value_Right.f v.f0 v.f1 v.f2 = some true := by
  unfold val_Value_Right.f
  rcases h with ⟨h1, h2⟩ | ⟨h1, h2, h3⟩ | ⟨h1, h2, h3⟩
  · rw [if_pos h1, h2, nil_toList]; rfl
  · rw [if_neg (by omega), if_pos h1, h3, nil_toList, if_pos rfl]
    rcases h2 with h2 | h2
    · rw [if_pos h2]
    · rw [if_neg (by omega), h2]; rfl
  · rw [if_neg (by omega), if_neg (by omega), if_pos h1, if_pos h2]
    unfold val_Plain.f
    have hs : v.f2.size ≤ 48 := by unfold PlainS at h3; simp only [Bool.and_eq_true, decide_eq_true_eq] at h3; exact h3.2
    rw [if_pos (by omega)]
    unfold PlainS at h3
    rw [h3]; rfl
theorem node_ok {x : S156} {j : Nat} (h : NodeOk x j) (hj : j ≤ 1000000) : Ev (fun k => expr_Node_right.f k x.f0 x.f1.f0 x.f1.f1 x.f1.f2 x.f2 x.f3 x.f4 (j : Int)) true := by
  have hw : wrap64 ((j : Int) - 1) = (j : Int) - 1 := wrap_at (by omega) (by omega)
  unfold expr_Node_right.f
  cases h with
  | lit v h h1 =>
    dsimp only [nodeV]
    refine Ev.pos rfl (Ev.pos (by rw [nil_toList]; rfl) (Ev.bind_some (valRight_ok h) (Ev.pos rfl ?_)))
    by_cases e : v.f0 = 1
    · exact Ev.pos e (Ev.some (decide_eq_true (h1 e).1))
    · exact Ev.neg e (Ev.some rfl)
  | name op s o h =>
    dsimp only [nodeN]
    have hn := Name_ev s (by have := name_short h; omega)
    rw [h] at hn
    have key : Ev (fun k => expr_Node_right.j0 k (j : Int) true op 0 0 (⟨#[]⟩ : ByteArray) s 0 0 op 0 0 (⟨#[]⟩ : ByteArray) (⟨#[]⟩ : ByteArray) 0 0) true := by
      refine Ev.succ ?_
      simp only [expr_Node_right.j0]
      exact Ev.pos trivial (Ev.pos (by simp) (Ev.bind hn (Ev.some rfl)))
    rcases o with rfl | rfl
    · exact Ev.neg (by decide) (Ev.pos rfl key)
    · exact Ev.neg (by decide) (Ev.neg (by decide) key)
  | one op o h1 =>
    dsimp only [nodeO]
    refine Ev.neg (by omega) (Ev.neg (by omega) (Ev.succ ?_))
    simp only [expr_Node_right.j0]
    rw [hw]
    exact Ev.neg (by simp; omega) (Ev.bind_some (one_eq _) (Ev.pos (decide_eq_true o) (Ev.pos (by simp) (Ev.pos (by omega) (Ev.some (decide_eq_true (by omega)))))))
  | two op c o h0 h1 =>
    dsimp only [nodeO]
    refine Ev.neg (by omega) (Ev.neg (by omega) (Ev.succ ?_))
    simp only [expr_Node_right.j0]
    rw [hw]
    exact Ev.neg (by simp; omega) (Ev.bind_some (one_eq _) (Ev.neg (by simp; omega) (Ev.bind_some (two_eq _) (Ev.pos (decide_eq_true o) (Ev.pos (by simp) (Ev.pos (by omega) (Ev.some (decide_eq_true (by omega)))))))))
theorem node_link {x : S156} {j : Nat} (h : NodeOk x j) : Link x (j : Int) := by
  intro h1 h2
  cases h with
  | lit v h h1' => simp only [nodeV] at h1; omega
  | name op s o h => simp only [nodeN] at h1 h2; omega
  | one op o hj => exact ⟨show (0 : Int) ≤ (j : Int) - 1 by omega, show (j : Int) - 1 < j by omega, fun h => absurd (show (3 : Int) ≤ op from h) (by omega)⟩
  | two op c o h0 h1' => exact ⟨h0, h1', fun _ => rfl⟩
theorem begins_seg {l : List S156} (hl : l.length ≤ 1000000) {a b : Nat} (s : Seg l a b) : Ev (fun k => expr_Expr_begins.l0 k l (b : Int)) (a : Int) := by
  induction s with
  | @leaf b x h o =>
    have hb := (List.getElem?_eq_some_iff.1 h).1
    have hx : l[b] = x := (List.getElem?_eq_some_iff.1 h).2
    refine Ev.succ ?_
    simp only [expr_Expr_begins.l0]
    rw [rd156 hb, hx]
    refine Ev.pos (by omega) (Ev.pos (by omega) (Ev.pos (by omega) (Ev.bind_some (one_eq _) (Ev.neg (by simp; omega) (Ev.bind_some (two_eq _) (Ev.succ ?_))))))
    simp only [expr_Expr_begins.j1]
    exact Ev.neg (by simp; omega) (Ev.some rfl)
  | @one a b x h o h3 s ih =>
    have hb := (List.getElem?_eq_some_iff.1 h).1
    have hx : l[b + 1] = x := (List.getElem?_eq_some_iff.1 h).2
    refine Ev.succ ?_
    simp only [expr_Expr_begins.l0]
    rw [rd156 hb, hx]
    refine Ev.pos (by omega) (Ev.pos (by omega) (Ev.pos (by omega) (Ev.bind_some (one_eq _) (Ev.pos (decide_eq_true o) (Ev.succ ?_)))))
    simp only [expr_Expr_begins.j1]
    rw [rd156 hb, hx, h3]
    exact Ev.pos trivial (Ev.pos (by omega) (Ev.pos (by omega) (Ev.bind_some (two_eq _) (Ev.neg (by simp; omega) ih))))
  | @two a b c x h o h3 h4 s t i1 i2 =>
    have hb := (List.getElem?_eq_some_iff.1 h).1
    have hx : l[b + 1] = x := (List.getElem?_eq_some_iff.1 h).2
    have := s.lt
    have hw : wrap64 ((c : Int) + 1) = ((c + 1 : Nat) : Int) := by rw [wrap_at (by omega) (by omega)]; omega
    refine Ev.succ ?_
    simp only [expr_Expr_begins.l0]
    rw [rd156 hb, hx]
    refine Ev.pos (by omega) (Ev.pos (by omega) (Ev.pos (by omega) (Ev.bind_some (one_eq _) (Ev.neg (by simp; omega) (Ev.bind_some (two_eq _) (Ev.succ ?_))))))
    simp only [expr_Expr_begins.j1]
    rw [rd156 hb, hx, h3, h4, hw]
    have hf : Ev (fun k => expr_Expr_begins.f k l (b : Int)) ((c + 1 : Nat) : Int) := Ev.succ (by simp only [expr_Expr_begins.f]; exact i2)
    exact Ev.pos (decide_eq_true o) (Ev.pos (by omega) (Ev.pos (by omega) (Ev.bind_some (two_eq _) (Ev.pos (decide_eq_true o) (Ev.bind hf (Ev.pos rfl i1))))))
structure GoodE (l : List S156) : Prop where
  ne : 0 < l.length
  le : l.length ≤ 32
  ok : ∀ (j : Nat) (x : S156), l[j]? = some x → NodeOk x j
  seg : Seg l 0 (l.length - 1)
  size : Ev (fun k => expr_Expr_Size.f k l) 0
theorem right_good_l0 {l : List S156} (g : GoodE l) : ∀ (d j : Nat), j ≤ l.length → l.length - j = d → Ev (fun k => expr_Expr_Right.l0 k l l (l.length : Int) (j : Int)) true := by
  have h0 := g.ne
  have h1 := g.le
  intro d
  induction d with
  | zero =>
    intro j hj hd
    refine Ev.succ ?_
    simp only [expr_Expr_Right.l0]
    rw [wrap_at (x := (l.length : Int) - 1) (by omega) (by omega)]
    have hb := begins_seg (by omega) g.seg
    rw [show ((l.length - 1 : Nat) : Int) = (l.length : Int) - 1 by omega] at hb
    exact Ev.neg (by omega) (Ev.bind (Ev.succ (by simp only [expr_Expr_begins.f]; exact hb)) (Ev.pos rfl (Ev.bind g.size (Ev.some rfl))))
  | succ d ih =>
    intro j hj hd
    have hjl : j < l.length := by omega
    refine Ev.succ ?_
    simp only [expr_Expr_Right.l0]
    rw [rd156 hjl, up1 (by omega)]
    exact Ev.pos (by omega) (Ev.pos (by omega) (Ev.pos (by omega) (Ev.bind (node_ok (g.ok j _ (List.getElem?_eq_getElem hjl)) (by omega)) (Ev.pos rfl (ih (j + 1) (by omega) (by omega))))))
theorem right_good {l : List S156} (g : GoodE l) : Ev (fun k => expr_Expr_Right.f k l) true := by
  have h0 := g.ne
  have h1 := g.le
  unfold expr_Expr_Right.f
  refine Ev.neg (by omega) (Ev.succ ?_)
  simp only [expr_Expr_Right.j0]
  exact Ev.neg (by simp; omega) (right_good_l0 g l.length 0 (by omega) (by omega))
theorem grows_ok {l : List S156} (h : Grows [] l) (j : Nat) (x : S156) (hx : l[j]? = some x) : NodeOk x j := h.2 j x (by simp) hx
theorem Parse_ev (l : List S32) (hl : l.length ≤ 120) (hok : ∀ i, i < l.length → TokOk (nextT l i)) : ∃ r, Ev (fun k => expr_Parse.f k l 0) r ∧ (r.2.2 = 0 → GoodE r.1 ∧ ∃ i : Nat, r.2.1 = (i : Int) ∧ i ≤ l.length ∧ Ev (fun k => pa k l 0 0 []) (some (i, r.1))) := by
  unfold expr_Parse.f
  obtain ⟨r, hr⟩ := pa_ev l
  have hh : (0 : Int) ≤ 0 ∧ (0 : Int) ≤ (l.length : Int) := by omega
  cases r with
  | none => exact ⟨([], 0, 11), Ev.pos (by omega) (Ev.pos hh (Ev.bind hr (Ev.some rfl))), fun h => by simp at h⟩
  | some p =>
    obtain ⟨i2, e2⟩ := p
    obtain ⟨K, hK⟩ := hr
    have hv := pa_inv K l 0 0 [] i2 e2 (hK K (Nat.le_refl _)) (by omega)
    obtain ⟨hg, hs, _⟩ := pa_seg l hok K 0 0 [] i2 e2 (hK K (Nat.le_refl _)) (by omega)
    obtain ⟨hne, hs⟩ := hs (by omega)
    have hlen : e2.length ≤ 120 := by have := hv.2.2; simp at this; omega
    obtain ⟨z, hz⟩ := size_total e2 (by omega) (fun j h => node_link (grows_ok hg j _ (List.getElem?_eq_getElem h)))
    by_cases e : z = 0
    · subst e
      refine ⟨(e2, (i2 : Int), 0), Ev.pos (by omega) (Ev.pos hh (Ev.bind ⟨K, hK⟩ (Ev.bind hz (Ev.pos rfl (Ev.some rfl))))), fun _ => ⟨⟨hne, ?_, grows_ok hg, hs, hz⟩, i2, rfl, hv.2.1, ⟨K, hK⟩⟩⟩
      by_cases g : (e2.length : Int) > 32
      · have h13 : Ev (fun k => expr_Expr_Size.f k e2) 13 := by
          unfold expr_Expr_Size.f
          exact Ev.pos g (Ev.some rfl)
        exact absurd (h13.uniq hz) (by decide)
      · show e2.length ≤ 32; omega
    · exact ⟨([], 0, z), Ev.pos (by omega) (Ev.pos hh (Ev.bind ⟨K, hK⟩ (Ev.bind hz (Ev.neg e (Ev.some rfl))))), fun h => absurd h e⟩
def toksOf (s : ByteArray) : List S32 := ((lex s.data.toList).1).map Tk.s32
theorem Read_ev' (s : ByteArray) (hs : s.size ≤ 140737488351232) : ∃ r, Ev (fun k => expr_Read.f k s) r ∧ (r.2 = 0 → GoodE r.1 ∧ (lex s.data.toList).2.1 = 0 ∧ Ev (fun k => pa k (toksOf s) 0 0 []) (some ((toksOf s).length, r.1))) := by
  unfold expr_Read.f
  have hl := Lex_ev s hs
  by_cases he : (lex s.data.toList).2.1 = 0
  · obtain ⟨r, hr, hg⟩ := Parse_ev (toksOf s) (by unfold toksOf; rw [List.length_map]; exact lex_len _) (lex_nextT s.data.toList)
    by_cases e2 : r.2.2 = 0
    · by_cases e3 : r.2.1 < ((toksOf s).length : Int)
      · exact ⟨([], 11), Ev.bind hl (Ev.pos he (Ev.bind hr (Ev.pos e2 (Ev.pos e3 (Ev.some rfl))))), fun h => by simp at h⟩
      · refine ⟨(r.1, 0), Ev.bind hl (Ev.pos he (Ev.bind hr (Ev.pos e2 (Ev.neg e3 (Ev.some rfl))))), fun _ => ?_⟩
        obtain ⟨h1, i, h2, h3, h4⟩ := hg e2
        obtain rfl : i = (toksOf s).length := by omega
        exact ⟨h1, he, h4⟩
    · exact ⟨([], r.2.2), Ev.bind hl (Ev.pos he (Ev.bind hr (Ev.neg e2 (Ev.some rfl)))), fun h => absurd h e2⟩
  · exact ⟨([], (lex s.data.toList).2.1), Ev.bind hl (Ev.neg he (Ev.some rfl)), fun h => absurd h he⟩
theorem Read_ev (s : ByteArray) (hs : s.size ≤ 140737488351232) : ∃ r, Ev (fun k => expr_Read.f k s) r ∧ (r.2 = 0 → GoodE r.1) := by
  obtain ⟨r, h, h'⟩ := Read_ev' s hs
  exact ⟨r, h, fun e => (h' e).1⟩
end Go.Proofs.YtbngfhlciebeeaaDoor.Sp
end
section
namespace Go.Proofs.YtbngfhlciebeeaaDoor.L
open Go.RowKit Go.Proofs.YtbngfhlciebeeaaDoorW.PrintWords Go.Proofs.YtbngfhlciebeeaaDoorW.PrintLast Go.Proofs.YtbngfhlciebeeaaDoorW.PrintMore
attribute [local go_sem] max2_int min2_int max_two min_two max_three min_three max_four min_four   -- for this text's walks alone
set_option linter.unusedVariables false
set_option linter.unusedSimpArgs false
def slices_Index_string_string.l0 : Nat → List ByteArray → ByteArray → Int → Int → Option (Int)
 | 0, _, _, _, _ => none
 | k + 1, x0, x1, x7, x8 => if x8 < x7 then (if 0 ≤ x8 then (if x8 < (x0.length : Int) then (if x1.toList = (rdOf ByteArray.empty x0 x8).toList then (some x8) else (slices_Index_string_string.l0 k x0 x1 x7 (wrap64 (x8 + 1)))) else (none)) else (none)) else (some (-1))
def slices_Index_string_string.f (k : Nat) (l0 : List ByteArray) (a1 : ByteArray) : Option (Int) := slices_Index_string_string.l0 k l0 a1 (l0.length : Int) 0
set_option maxHeartbeats 8000000 in
set_option maxRecDepth 100000 in
theorem slices_Index_string_string.calls (k : Nat) (A0 : Option Addr) (c0 : Nat) (l0 : List ByteArray) (a1 : ByteArray) (r : Int) (w : World) (hr0 : Kd.C Kd.string w A0 l0.length l0) (hc0 : l0.length ≤ c0) (h : slices_Index_string_string.f k l0 a1 = some r) :
  Calls Tryd.prog 143 #[.slice A0 l0.length c0, .string a1] w fun e w' => e = .returned (.int .i64 r) ∧ Drawn0 w w' := by
 have HR0 := Aside0.mk hr0
 have HC0 := Aside0.mk hc0
 clear hr0 hc0
 have H : (slices_Index_string_string.l0 k l0 a1 (l0.length : Int) 0) = some r := h
 clear h
 have H' := Aside0.mk H
 clear H
 go_enter Tryd.func143, Tryd.ntmps143
 go_wp2
 go_loopg [8] k (fun kq v8 w' => ∃ (x8_1 : Int), v8 = .int .i64 x8_1 ∧ Aside0 (slices_Index_string_string.l0 kq l0 a1 (l0.length : Int) x8_1 = some r) ∧ Aside0 (kq ≤ k) ∧ Drawn0 w w')
 case atStart => exact ⟨(0), (by first | rfl | (simp; done) | (simp [*]; done)), H', ⟨Nat.le_refl _⟩, by repeat (first | exact Drawn0.refl _ | apply Drawn0.step)⟩
 case round =>
  clear H'
  try clear c1
  try clear p2
  obtain ⟨x8_1, rfl, HA, HK1, ⟨m1, rfl⟩⟩ := hrel
  cases gk with
  | zero => exact absurd HA.out (by simp [slices_Index_string_string.l0])
  | succ k1 =>
   have H := HA.out
   clear HA
   simp only [slices_Index_string_string.l0] at H
   replace H := iD H
   rcases H with ⟨c3b0, H⟩ | ⟨c3b0, H⟩
   ·by_cases c4 : 0 ≤ x8_1
    ·rw [if_pos c4] at H
     have c4b0 := decide_eq_true c4
     clear c4
     replace H := iD H
     rcases H with ⟨c5b0, H⟩ | ⟨c5b0, H⟩
     ·by_cases c6 : a1.toList = (rdOf ByteArray.empty l0 x8_1).toList
      ·rw [if_pos c6] at H
       have c6b0 := beq_iff_eq.mpr c6
       have c6b1 := bne_eq_false_iff_eq.mpr c6
       clear c6
       obtain rfl := Option.some.inj H
       have p792 : 0 ≤ (x8_1 : Int) := qD
       have q792 : x8_1 < (l0.length : Int) := qD
       obtain ⟨ad792, e792, hx792_0⟩ := Kd.at_string HR0.out x8_1 p792 q792
       cases e792
       replace p792 := eq_true p792
       replace q792 := eq_true q792
       go_wp2
       go_ret
       exact ⟨by first | rfl | (simp; done) | (simp [*]; done), by repeat (first | exact Drawn0.refl _ | apply Drawn0.step)⟩
      ·rw [if_neg c6] at H
       have c6b0 := beq_eq_false_iff_ne.mpr c6
       have c6b1 := bne_iff_ne.mpr c6
       have H' := Aside0.mk H
       clear H
       have p792 : 0 ≤ (x8_1 : Int) := qD
       have q792 : x8_1 < (l0.length : Int) := qD
       obtain ⟨ad792, e792, hx792_0⟩ := Kd.at_string HR0.out x8_1 p792 q792
       cases e792
       replace p792 := eq_true p792
       replace q792 := eq_true q792
       go_wp2
       go_roundg k1
       case measure => have := HK1.out; omega
       case rel => exact ⟨(wrap64 (x8_1 + 1)), (by first | rfl | (simp; done) | (simp [*]; done)), H', ⟨by have := HK1.out; omega⟩, by repeat (first | exact Drawn0.refl _ | apply Drawn0.step)⟩
     ·exact absurd H (by simp)
    ·rw [if_neg c4] at H
     exact absurd H (by simp)
   ·obtain rfl := Option.some.inj H
    go_wp2
    go_ret
    exact ⟨by first | rfl | (simp; done) | (simp [*]; done), by repeat (first | exact Drawn0.refl _ | apply Drawn0.step)⟩
end Go.Proofs.YtbngfhlciebeeaaDoor.L
end
