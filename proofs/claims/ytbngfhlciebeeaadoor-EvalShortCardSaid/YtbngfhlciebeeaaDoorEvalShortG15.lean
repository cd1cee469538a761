/- Printed and hand-written steps towards the row (EvalShort), those that it reaches. -/
import Derived.Test.YtbngfhlciebeeaaDoorEvalShortG3
import Derived.Test.YtbngfhlciebeeaaDoorEvalShortG4
import Derived.Test.YtbngfhlciebeeaaDoorEvalShortG7
import Derived.Test.YtbngfhlciebeeaaDoorEvalShortG14
import Derived.Test.YtbngfhlciebeeaaDoorEvalShortG11
import Derived.Test.YtbngfhlciebeeaaDoorEvalShortG12
section
namespace Go.Proofs.YtbngfhlciebeeaaDoor.L
open Go.RowKit Go.Proofs.YtbngfhlciebeeaaDoorW.PrintWords Go.Proofs.YtbngfhlciebeeaaDoorW.PrintLast Go.Proofs.YtbngfhlciebeeaaDoorW.PrintMore
attribute [local go_sem] max2_int min2_int max_two min_two max_three min_three max_four min_four   -- for this text's walks alone
set_option linter.unusedVariables false
set_option linter.unusedSimpArgs false
def expr_Read.f (k : Nat) (a0 : ByteArray) : Option ((List (S156)) × Int) := (tok_Lex.f k a0).bind fun bt761 => (if bt761.2.1 = 0 then ((expr_Parse.f k bt761.1 0).bind fun bt766 => (if bt766.2.2 = 0 then (if bt766.2.1 < (bt761.1.length : Int) then (some (([] : List (S156)), 11)) else (some (bt766.1, 0))) else (some (([] : List (S156)), bt766.2.2)))) else (some (([] : List (S156)), bt761.2.1)))
set_option maxHeartbeats 8000000 in
set_option maxRecDepth 100000 in
theorem expr_Read.calls (k : Nat) (a0 : ByteArray) (r1 : List (S156)) (r2 : Int) (w : World) (hL : Laid w) (h : expr_Read.f k a0 = some (r1, r2)) :
  Calls Tryd.prog 53 #[.string a0] w fun e w' => ∃ v0_ : Value, e = .returned (.tuple #[v0_, .int .i64 r2]) ∧ Kd.R k156 156 w' w.heap.size (fun _ => True) v0_ r1 ∧ Below w.heap.size w w' := by
 have HB := Aside0.mk (Below.refl w.heap.size w)
 have HLD := Aside0.mk hL
 clear hL
 have H : ((tok_Lex.f k a0).bind fun bt761 => (if bt761.2.1 = 0 then ((expr_Parse.f k bt761.1 0).bind fun bt766 => (if bt766.2.2 = 0 then (if bt766.2.1 < (bt761.1.length : Int) then (some (([] : List (S156)), 11)) else (some (bt766.1, 0))) else (some (([] : List (S156)), bt766.2.2)))) else (some (([] : List (S156)), bt761.2.1)))) = some (r1, r2) := h
 clear h
 replace H := Option.bind_eq_some_iff.mp H
 obtain ⟨⟨t761, t762, t763⟩, A20, H⟩ := H
 (try dsimp -simprocs only at H)
 have A2 := Aside0.mk A20
 clear A20
 by_cases c3 : t762 = 0
 ·rw [if_pos c3] at H
  have c3b0 := beq_iff_eq.mpr c3
  have c3b1 := bne_eq_false_iff_eq.mpr c3
  clear c3
  replace H := Option.bind_eq_some_iff.mp H
  obtain ⟨⟨t766, t767, t768⟩, A40, H⟩ := H
  (try dsimp -simprocs only at H)
  have A4 := Aside0.mk A40
  clear A40
  by_cases c5 : t768 = 0
  ·rw [if_pos c5] at H
   have c5b0 := beq_iff_eq.mpr c5
   have c5b1 := bne_eq_false_iff_eq.mpr c5
   clear c5
   replace H := iD H
   rcases H with ⟨c6b0, H⟩ | ⟨c6b0, H⟩
   ·simp only [Option.some.injEq, Prod.mk.injEq] at H
    obtain ⟨rfl, rfl⟩ := H
    go_enter Tryd.func53, Tryd.ntmps53
    go_wp2_with (first | ((with_reducible refine gc 20 rfl ?_); refine gl (some 11) #[.string a0] Tryd.func20 ?_; (with_reducible refine (tok_Lex.calls k a0 t761 t762 t763 _ ?side1 A2.out).mono ?_); (case side1 => exact Laid.below HLD.out qB); rintro e w7 ⟨v764, rfl, ho0, hb⟩; refine ⟨_, rfl, ?_⟩; have HO765 := Aside0.mk (Kd.R_lower ho0 (below_size qB)); replace HB := bst hb; (try clear hb); (try clear ho0); obtain ⟨Ao8, co8, eo8⟩ := Kd.R_slice HO765.out; subst eo8) | ((with_reducible refine gc 90 rfl ?_); refine gl (some 20) #[.slice Ao8 t761.length co8, .int .i64 0] Tryd.func90 ?_; (with_reducible refine (expr_Parse.calls k _ _ t761 0 t766 t767 t768 _ ?side1 ?side2 A4.out).mono ?_); (case side1 => exact cr HO765); (case side2 => exact (Kd.R_reads' HO765.out).2.1); rintro e w9 ⟨v769, rfl, ho0, hb⟩; refine ⟨_, rfl, ?_⟩; have HO770 := Aside0.mk (Kd.R_lower ho0 (below_size qB)); replace HO765 := rb HO765 hb; replace HB := bst hb; (try clear hb); (try clear ho0)))
    go_ret2
    exact ⟨_, qR, by first | exact Kd.R_nil _ _ _ _ _ | exact Kd.N_nil _ _ _ _ _ | exact Kd.V_nil _ _ _ _ _ | exact Kd.Q_nil _ _ _ _ _ | exact Kd.S_nil _ _ _ _ _, qB⟩
   simp only [Option.some.injEq, Prod.mk.injEq] at H
   obtain ⟨rfl, rfl⟩ := H
   go_enter Tryd.func53, Tryd.ntmps53
   go_wp2_with (first | ((with_reducible refine gc 20 rfl ?_); refine gl (some 11) #[.string a0] Tryd.func20 ?_; (with_reducible refine (tok_Lex.calls k a0 t761 t762 t763 _ ?side1 A2.out).mono ?_); (case side1 => exact Laid.below HLD.out qB); rintro e w10 ⟨v764, rfl, ho0, hb⟩; refine ⟨_, rfl, ?_⟩; have HO765 := Aside0.mk (Kd.R_lower ho0 (below_size qB)); replace HB := bst hb; (try clear hb); (try clear ho0); obtain ⟨Ao11, co11, eo11⟩ := Kd.R_slice HO765.out; subst eo11) | ((with_reducible refine gc 90 rfl ?_); refine gl (some 20) #[.slice Ao11 t761.length co11, .int .i64 0] Tryd.func90 ?_; (with_reducible refine (expr_Parse.calls k _ _ t761 0 t766 t767 t768 _ ?side1 ?side2 A4.out).mono ?_); (case side1 => exact cr HO765); (case side2 => exact (Kd.R_reads' HO765.out).2.1); rintro e w12 ⟨v769, rfl, ho0, hb⟩; refine ⟨_, rfl, ?_⟩; have HO770 := Aside0.mk (Kd.R_lower ho0 (below_size qB)); replace HO765 := rb HO765 hb; replace HB := bst hb; (try clear hb); (try clear ho0)))
   go_ret2
   exact ⟨_, qR, by (with_reducible repeat (first | apply Kd.R_alloc | apply Kd.R_drewN | apply Kd.R_drew)); exact HO770.out, qB⟩
  rw [if_neg c5] at H
  have c5b0 := beq_eq_false_iff_ne.mpr c5
  have c5b1 := bne_iff_ne.mpr c5
  simp only [Option.some.injEq, Prod.mk.injEq] at H
  obtain ⟨rfl, rfl⟩ := H
  go_enter Tryd.func53, Tryd.ntmps53
  go_wp2_with (first | ((with_reducible refine gc 20 rfl ?_); refine gl (some 11) #[.string a0] Tryd.func20 ?_; (with_reducible refine (tok_Lex.calls k a0 t761 t762 t763 _ ?side1 A2.out).mono ?_); (case side1 => exact Laid.below HLD.out qB); rintro e w13 ⟨v764, rfl, ho0, hb⟩; refine ⟨_, rfl, ?_⟩; have HO765 := Aside0.mk (Kd.R_lower ho0 (below_size qB)); replace HB := bst hb; (try clear hb); (try clear ho0); obtain ⟨Ao14, co14, eo14⟩ := Kd.R_slice HO765.out; subst eo14) | ((with_reducible refine gc 90 rfl ?_); refine gl (some 20) #[.slice Ao14 t761.length co14, .int .i64 0] Tryd.func90 ?_; (with_reducible refine (expr_Parse.calls k _ _ t761 0 t766 t767 t768 _ ?side1 ?side2 A4.out).mono ?_); (case side1 => exact cr HO765); (case side2 => exact (Kd.R_reads' HO765.out).2.1); rintro e w15 ⟨v769, rfl, ho0, hb⟩; refine ⟨_, rfl, ?_⟩; have HO770 := Aside0.mk (Kd.R_lower ho0 (below_size qB)); replace HO765 := rb HO765 hb; replace HB := bst hb; (try clear hb); (try clear ho0)))
  go_ret2
  exact ⟨_, qR, by first | exact Kd.R_nil _ _ _ _ _ | exact Kd.N_nil _ _ _ _ _ | exact Kd.V_nil _ _ _ _ _ | exact Kd.Q_nil _ _ _ _ _ | exact Kd.S_nil _ _ _ _ _, qB⟩
 rw [if_neg c3] at H
 have c3b0 := beq_eq_false_iff_ne.mpr c3
 have c3b1 := bne_iff_ne.mpr c3
 simp only [Option.some.injEq, Prod.mk.injEq] at H
 obtain ⟨rfl, rfl⟩ := H
 go_enter Tryd.func53, Tryd.ntmps53
 go_wp2_with (first | ((with_reducible refine gc 20 rfl ?_); refine gl (some 11) #[.string a0] Tryd.func20 ?_; (with_reducible refine (tok_Lex.calls k a0 t761 t762 t763 _ ?side1 A2.out).mono ?_); (case side1 => exact Laid.below HLD.out qB); rintro e w16 ⟨v764, rfl, ho0, hb⟩; refine ⟨_, rfl, ?_⟩; have HO765 := Aside0.mk (Kd.R_lower ho0 (below_size qB)); replace HB := bst hb; (try clear hb); (try clear ho0)))
 go_ret2
 exact ⟨_, qR, by first | exact Kd.R_nil _ _ _ _ _ | exact Kd.N_nil _ _ _ _ _ | exact Kd.V_nil _ _ _ _ _ | exact Kd.Q_nil _ _ _ _ _ | exact Kd.S_nil _ _ _ _ _, qB⟩
end Go.Proofs.YtbngfhlciebeeaaDoor.L
end
section
namespace Go.Proofs.YtbngfhlciebeeaaDoor.Sp
set_option linter.unusedVariables false
set_option linter.unusedSimpArgs false
open Go.RowKit Go.Proofs.YtbngfhlciebeeaaDoorW.PrintWords Go.Proofs.YtbngfhlciebeeaaDoorW.PrintMore Go.Proofs.YtbngfhlciebeeaaDoor.L
theorem toL_inj {a b : ByteArray} : a.toList = b.toList ↔ a = b := by
  rw [ByteArray.toList_eq, ByteArray.toList_eq]
  exact ⟨ext_bytes, fun h => by rw [h]⟩
theorem nil_toList : (⟨#[]⟩ : ByteArray).toList = [] := by rw [ByteArray.toList_eq]
theorem tokenAt_short {L : List UInt8} {i : Nat} {k : Int} {t : List UInt8} {n : Int} {e : Nat} (hi : i < L.length) (h : tokenAt L i = .ok (k, t, n, e)) : k = 1 → t.length ≤ 32 := by
  intro hk
  subst hk
  unfold tokenAt at h
  split at h
  · split at h
    · cases h
    · split at h
      · cases h
      · rename_i k' e' hp
        have hle := pathGo_le L _ _ _ _ _ (pend_le (by omega)) hp
        split at h
        · cases h
        · simp only [Except.ok.injEq, Prod.mk.injEq] at h
          obtain ⟨_, rfl, _, _⟩ := h
          rw [cut_length hle.2]; omega
  · split at h
    · split at h
      · cases h
      · split at h
        · cases h
        · simp only [Except.ok.injEq, Prod.mk.injEq] at h
          omega
    · split at h
      · split at h
        · cases h
        · split at h
          · cases h
          · split at h
            · simp only [Except.ok.injEq, Prod.mk.injEq] at h
              omega
            · cases h
      · split at h
        · simp only [Except.ok.injEq, Prod.mk.injEq] at h
          omega
        · cases h
theorem lex_short (L : List UInt8) : ∀ t ∈ (lex L).1, t.kind = 1 → t.text.length ≤ 32 := lexGo_all (fun t => t.kind = 1 → t.text.length ≤ 32) L (fun i k t n e p hi h => tokenAt_short hi h) _ _ _ (by simp)
theorem name_short {s : ByteArray} (h : nameT s = true) : s.size ≤ 32 := by
  have hx := lex_short s.data.toList
  unfold nameT at h
  generalize lex s.data.toList = x at *
  obtain ⟨ts, e, p⟩ := x
  rcases ts with _ | ⟨t, _ | ⟨t2, ts⟩⟩
  · cases h
  · simp only [Bool.and_eq_true, decide_eq_true_eq] at h
    have := hx t (by simp) h.1.1.2
    rw [h.1.2, len_size] at this
    exact this
  · cases h
theorem valRight_ok {v : S103} (h : ValOk v) : val_Value_Right.f v.f0 v.f1 v.f2 = some true := by
  unfold val_Value_Right.f
  rcases h with ⟨h1, h2⟩ | ⟨h1, h2, h3⟩ | ⟨h1, h2, h3⟩
  · rw [if_pos h1, h2, nil_toList]; rfl
  · rw [if_neg (by omega), if_pos h1, h3, nil_toList, if_pos rfl]
    rcases h2 with h2 | h2
    · rw [if_pos h2]
    · rw [if_neg (by omega), h2]; rfl
  · rw [if_neg (by omega), if_neg (by omega), if_pos h1, if_pos h2]
    unfold val_Plain.f
    have hs : v.f2.size ≤ 48 := by unfold PlainS at h3; simp only [Bool.and_eq_true, decide_eq_true_eq] at h3; exact h3.2
    rw [if_pos (by omega)]
    unfold PlainS at h3
    rw [h3]; rfl
theorem node_ok {x : S156} {j : Nat} (h : NodeOk x j) (hj : j ≤ 1000000) : Ev (fun k => expr_Node_right.f k x.f0 x.f1.f0 x.f1.f1 x.f1.f2 x.f2 x.f3 x.f4 (j : Int)) true := by
  have hw : wrap64 ((j : Int) - 1) = (j : Int) - 1 := wrap_at (by omega) (by omega)
  unfold expr_Node_right.f
  cases h with
  | lit v h h1 =>
    dsimp only [nodeV]
    refine Ev.pos rfl (Ev.pos (by rw [nil_toList]; rfl) (Ev.bind_some (valRight_ok h) (Ev.pos rfl ?_)))
    by_cases e : v.f0 = 1
    · exact Ev.pos e (Ev.some (decide_eq_true (h1 e).1))
    · exact Ev.neg e (Ev.some rfl)
  | name op s o h =>
    dsimp only [nodeN]
    have hn := Name_ev s (by have := name_short h; omega)
    rw [h] at hn
    have key : Ev (fun k => expr_Node_right.j0 k (j : Int) true op 0 0 (⟨#[]⟩ : ByteArray) s 0 0 op 0 0 (⟨#[]⟩ : ByteArray) (⟨#[]⟩ : ByteArray) 0 0) true := by
      refine Ev.succ ?_
      simp only [expr_Node_right.j0]
      exact Ev.pos trivial (Ev.pos (by simp) (Ev.bind hn (Ev.some rfl)))
    rcases o with rfl | rfl
    · exact Ev.neg (by decide) (Ev.pos rfl key)
    · exact Ev.neg (by decide) (Ev.neg (by decide) key)
  | one op o h1 =>
    dsimp only [nodeO]
    refine Ev.neg (by omega) (Ev.neg (by omega) (Ev.succ ?_))
    simp only [expr_Node_right.j0]
    rw [hw]
    exact Ev.neg (by simp; omega) (Ev.bind_some (one_eq _) (Ev.pos (decide_eq_true o) (Ev.pos (by simp) (Ev.pos (by omega) (Ev.some (decide_eq_true (by omega)))))))
  | two op c o h0 h1 =>
    dsimp only [nodeO]
    refine Ev.neg (by omega) (Ev.neg (by omega) (Ev.succ ?_))
    simp only [expr_Node_right.j0]
    rw [hw]
    exact Ev.neg (by simp; omega) (Ev.bind_some (one_eq _) (Ev.neg (by simp; omega) (Ev.bind_some (two_eq _) (Ev.pos (decide_eq_true o) (Ev.pos (by simp) (Ev.pos (by omega) (Ev.some (decide_eq_true (by omega)))))))))
theorem node_link {x : S156} {j : Nat} (h : NodeOk x j) : Link x (j : Int) := by
  intro h1 h2
  cases h with
  | lit v h h1' => simp only [nodeV] at h1; omega
  | name op s o h => simp only [nodeN] at h1 h2; omega
  | one op o hj => exact ⟨show (0 : Int) ≤ (j : Int) - 1 by omega, show (j : Int) - 1 < j by omega, fun h => absurd (show (3 : Int) ≤ op from h) (by omega)⟩
  | two op c o h0 h1' => exact ⟨h0, h1', fun _ => rfl⟩
theorem begins_seg {l : List S156} (hl : l.length ≤ 1000000) {a b : Nat} (s : Seg l a b) : Ev (fun k => expr_Expr_begins.l0 k l (b : Int)) (a : Int) := by
  induction s with
  | @leaf b x h o =>
    have hb := (List.getElem?_eq_some_iff.1 h).1
    have hx : l[b] = x := (List.getElem?_eq_some_iff.1 h).2
    refine Ev.succ ?_
    simp only [expr_Expr_begins.l0]
    rw [rd156 hb, hx]
    refine Ev.pos (by omega) (Ev.pos (by omega) (Ev.pos (by omega) (Ev.bind_some (one_eq _) (Ev.neg (by simp; omega) (Ev.bind_some (two_eq _) (Ev.succ ?_))))))
    simp only [expr_Expr_begins.j1]
    exact Ev.neg (by simp; omega) (Ev.some rfl)
  | @one a b x h o h3 s ih =>
    have hb := (List.getElem?_eq_some_iff.1 h).1
    have hx : l[b + 1] = x := (List.getElem?_eq_some_iff.1 h).2
    refine Ev.succ ?_
    simp only [expr_Expr_begins.l0]
    rw [rd156 hb, hx]
    refine Ev.pos (by omega) (Ev.pos (by omega) (Ev.pos (by omega) (Ev.bind_some (one_eq _) (Ev.pos (decide_eq_true o) (Ev.succ ?_)))))
    simp only [expr_Expr_begins.j1]
    rw [rd156 hb, hx, h3]
    exact Ev.pos trivial (Ev.pos (by omega) (Ev.pos (by omega) (Ev.bind_some (two_eq _) (Ev.neg (by simp; omega) ih))))
  | @two a b c x h o h3 h4 s t i1 i2 =>
    have hb := (List.getElem?_eq_some_iff.1 h).1
    have hx : l[b + 1] = x := (List.getElem?_eq_some_iff.1 h).2
    have := s.lt
    have hw : wrap64 ((c : Int) + 1) = ((c + 1 : Nat) : Int) := by rw [wrap_at (by omega) (by omega)]; omega
    refine Ev.succ ?_
    simp only [expr_Expr_begins.l0]
    rw [rd156 hb, hx]
    refine Ev.pos (by omega) (Ev.pos (by omega) (Ev.pos (by omega) (Ev.bind_some (one_eq _) (Ev.neg (by simp; omega) (Ev.bind_some (two_eq _) (Ev.succ ?_))))))
    simp only [expr_Expr_begins.j1]
    rw [rd156 hb, hx, h3, h4, hw]
    have hf : Ev (fun k => expr_Expr_begins.f k l (b : Int)) ((c + 1 : Nat) : Int) := Ev.succ (by simp only [expr_Expr_begins.f]; exact i2)
    exact Ev.pos (decide_eq_true o) (Ev.pos (by omega) (Ev.pos (by omega) (Ev.bind_some (two_eq _) (Ev.pos (decide_eq_true o) (Ev.bind hf (Ev.pos rfl i1))))))
structure GoodE (l : List S156) : Prop where
  ne : 0 < l.length
  le : l.length ≤ 32
  ok : ∀ (j : Nat) (x : S156), l[j]? = some x → NodeOk x j
  seg : Seg l 0 (l.length - 1)
  size : Ev (fun k => expr_Expr_Size.f k l) 0
theorem right_good_l0 {l : List S156} (g : GoodE l) : ∀ (d j : Nat), j ≤ l.length → l.length - j = d → Ev (fun k => expr_Expr_Right.l0 k l l (l.length : Int) (j : Int)) true := by
  have h0 := g.ne
  have h1 := g.le
  intro d
  induction d with
  | zero =>
    intro j hj hd
    refine Ev.succ ?_
    simp only [expr_Expr_Right.l0]
    rw [wrap_at (x := (l.length : Int) - 1) (by omega) (by omega)]
    have hb := begins_seg (by omega) g.seg
    rw [show ((l.length - 1 : Nat) : Int) = (l.length : Int) - 1 by omega] at hb
    exact Ev.neg (by omega) (Ev.bind (Ev.succ (by simp only [expr_Expr_begins.f]; exact hb)) (Ev.pos rfl (Ev.bind g.size (Ev.some rfl))))
  | succ d ih =>
    intro j hj hd
    have hjl : j < l.length := by omega
    refine Ev.succ ?_
    simp only [expr_Expr_Right.l0]
    rw [rd156 hjl, up1 (by omega)]
    exact Ev.pos (by omega) (Ev.pos (by omega) (Ev.pos (by omega) (Ev.bind (node_ok (g.ok j _ (List.getElem?_eq_getElem hjl)) (by omega)) (Ev.pos rfl (ih (j + 1) (by omega) (by omega))))))
theorem right_good {l : List S156} (g : GoodE l) : Ev (fun k => expr_Expr_Right.f k l) true := by
  have h0 := g.ne
  have h1 := g.le
  unfold expr_Expr_Right.f
  refine Ev.neg (by omega) (Ev.succ ?_)
  simp only [expr_Expr_Right.j0]
  exact Ev.neg (by simp; omega) (right_good_l0 g l.length 0 (by omega) (by omega))
theorem grows_ok {l : List S156} (h : Grows [] l) (j : Nat) (x : S156) (hx : l[j]? = some x) : NodeOk x j := h.2 j x (by simp) hx
theorem Parse_ev (l : List S32) (hl : l.length ≤ 120) (hok : ∀ i, i < l.length → TokOk (nextT l i)) : ∃ r, Ev (fun k => expr_Parse.f k l 0) r ∧ (r.2.2 = 0 → GoodE r.1 ∧ ∃ i : Nat, r.2.1 = (i : Int) ∧ i ≤ l.length ∧ Ev (fun k => pa k l 0 0 []) (some (i, r.1))) := by
  unfold expr_Parse.f
  obtain ⟨r, hr⟩ := pa_ev l
  have hh : (0 : Int) ≤ 0 ∧ (0 : Int) ≤ (l.length : Int) := by omega
  cases r with
  | none => exact ⟨([], 0, 11), Ev.pos (by omega) (Ev.pos hh (Ev.bind hr (Ev.some rfl))), fun h => by simp at h⟩
  | some p =>
    obtain ⟨i2, e2⟩ := p
    obtain ⟨K, hK⟩ := hr
    have hv := pa_inv K l 0 0 [] i2 e2 (hK K (Nat.le_refl _)) (by omega)
    obtain ⟨hg, hs, _⟩ := pa_seg l hok K 0 0 [] i2 e2 (hK K (Nat.le_refl _)) (by omega)
    obtain ⟨hne, hs⟩ := hs (by omega)
    have hlen : e2.length ≤ 120 := by have := hv.2.2; simp at this; omega
    obtain ⟨z, hz⟩ := size_total e2 (by omega) (fun j h => node_link (grows_ok hg j _ (List.getElem?_eq_getElem h)))
    by_cases e : z = 0
    · subst e
      refine ⟨(e2, (i2 : Int), 0), Ev.pos (by omega) (Ev.pos hh (Ev.bind ⟨K, hK⟩ (Ev.bind hz (Ev.pos rfl (Ev.some rfl))))), fun _ => ⟨⟨hne, ?_, grows_ok hg, hs, hz⟩, i2, rfl, hv.2.1, ⟨K, hK⟩⟩⟩
      by_cases g : (e2.length : Int) > 32
      · have h13 : Ev (fun k => expr_Expr_Size.f k e2) 13 := by
          unfold expr_Expr_Size.f
          exact Ev.pos g (Ev.some rfl)
        exact absurd (h13.uniq hz) (by decide)
      · show e2.length ≤ 32; omega
    · exact ⟨([], 0, z), Ev.pos (by omega) (Ev.pos hh (Ev.bind ⟨K, hK⟩ (Ev.bind hz (Ev.neg e (Ev.some rfl))))), fun h => absurd h e⟩
def toksOf (s : ByteArray) : List S32 := ((lex s.data.toList).1).map Tk.s32
theorem Read_ev' (s : ByteArray) (hs : s.size ≤ 140737488351232) : ∃ r, Ev (fun k => expr_Read.f k s) r ∧ (r.2 = 0 → GoodE r.1 ∧ (lex s.data.toList).2.1 = 0 ∧ Ev (fun k => pa k (toksOf s) 0 0 []) (some ((toksOf s).length, r.1))) := by
  unfold expr_Read.f
  have hl := Lex_ev s hs
  by_cases he : (lex s.data.toList).2.1 = 0
  · obtain ⟨r, hr, hg⟩ := Parse_ev (toksOf s) (by unfold toksOf; rw [List.length_map]; exact lex_len _) (lex_nextT s.data.toList)
    by_cases e2 : r.2.2 = 0
    · by_cases e3 : r.2.1 < ((toksOf s).length : Int)
      · exact ⟨([], 11), Ev.bind hl (Ev.pos he (Ev.bind hr (Ev.pos e2 (Ev.pos e3 (Ev.some rfl))))), fun h => by simp at h⟩
      · refine ⟨(r.1, 0), Ev.bind hl (Ev.pos he (Ev.bind hr (Ev.pos e2 (Ev.neg e3 (Ev.some rfl))))), fun _ => ?_⟩
        obtain ⟨h1, i, h2, h3, h4⟩ := hg e2
        obtain rfl : i = (toksOf s).length := by omega
        exact ⟨h1, he, h4⟩
    · exact ⟨([], r.2.2), Ev.bind hl (Ev.pos he (Ev.bind hr (Ev.neg e2 (Ev.some rfl)))), fun h => absurd h e2⟩
  · exact ⟨([], (lex s.data.toList).2.1), Ev.bind hl (Ev.neg he (Ev.some rfl)), fun h => absurd h he⟩
end Go.Proofs.YtbngfhlciebeeaaDoor.Sp
end
section
namespace Go.Proofs.YtbngfhlciebeeaaDoor.L
open Go.RowKit Go.Proofs.YtbngfhlciebeeaaDoorW.PrintWords Go.Proofs.YtbngfhlciebeeaaDoorW.PrintLast Go.Proofs.YtbngfhlciebeeaaDoorW.PrintMore
attribute [local go_sem] max2_int min2_int max_two min_two max_three min_three max_four min_four   -- for this text's walks alone
set_option linter.unusedVariables false
set_option linter.unusedSimpArgs false
def slices_Index_string_string.l0 : Nat → List ByteArray → ByteArray → Int → Int → Option (Int)
 | 0, _, _, _, _ => none
 | k + 1, x0, x1, x7, x8 => if x8 < x7 then (if 0 ≤ x8 then (if x8 < (x0.length : Int) then (if x1.toList = (rdOf ByteArray.empty x0 x8).toList then (some x8) else (slices_Index_string_string.l0 k x0 x1 x7 (wrap64 (x8 + 1)))) else (none)) else (none)) else (some (-1))
def slices_Index_string_string.f (k : Nat) (l0 : List ByteArray) (a1 : ByteArray) : Option (Int) := slices_Index_string_string.l0 k l0 a1 (l0.length : Int) 0
set_option maxHeartbeats 8000000 in
set_option maxRecDepth 100000 in
theorem slices_Index_string_string.calls (k : Nat) (A0 : Option Addr) (c0 : Nat) (l0 : List ByteArray) (a1 : ByteArray) (r : Int) (w : World) (hr0 : Kd.C Kd.string w A0 l0.length l0) (hc0 : l0.length ≤ c0) (h : slices_Index_string_string.f k l0 a1 = some r) :
  Calls Tryd.prog 143 #[.slice A0 l0.length c0, .string a1] w fun e w' => e = .returned (.int .i64 r) ∧ Drawn0 w w' := by
 have HR0 := Aside0.mk hr0
 have HC0 := Aside0.mk hc0
 clear hr0 hc0
 have H : (slices_Index_string_string.l0 k l0 a1 (l0.length : Int) 0) = some r := h
 clear h
 have H' := Aside0.mk H
 clear H
 go_enter Tryd.func143, Tryd.ntmps143
 go_wp2
 go_loopg [8] k (fun kq v8 w' => ∃ (x8_1 : Int), v8 = .int .i64 x8_1 ∧ Aside0 (slices_Index_string_string.l0 kq l0 a1 (l0.length : Int) x8_1 = some r) ∧ Aside0 (kq ≤ k) ∧ Drawn0 w w')
 case atStart => exact ⟨(0), qE, H', ⟨Nat.le_refl _⟩, by repeat (first | exact Drawn0.refl _ | apply Drawn0.step)⟩
 case round =>
  clear H'
  try clear p2
  obtain ⟨x8_1, rfl, HA, HK1, ⟨m1, rfl⟩⟩ := hrel
  cases gk with
  | zero => exact absurd HA.out (by simp [slices_Index_string_string.l0])
  | succ k1 =>
   have H := HA.out
   clear HA
   simp only [slices_Index_string_string.l0] at H
   replace H := iD H
   rcases H with ⟨c3b0, H⟩ | ⟨c3b0, H⟩
   ·by_cases c4 : 0 ≤ x8_1
    ·rw [if_pos c4] at H; have c4b0 := decide_eq_true c4; clear c4; replace H := iD H
     rcases H with ⟨c5b0, H⟩ | ⟨c5b0, H⟩
     ·by_cases c6 : a1.toList = (rdOf ByteArray.empty l0 x8_1).toList
      ·rw [if_pos c6] at H; have c6b0 := beq_iff_eq.mpr c6; have c6b1 := bne_eq_false_iff_eq.mpr c6; clear c6; obtain rfl := Option.some.inj H; have p792 : 0 ≤ (x8_1 : Int) := qD; have q792 : x8_1 < (l0.length : Int) := qD; obtain ⟨ad792, e792, hx792_0⟩ := Kd.at_string HR0.out x8_1 p792 q792; cases e792; replace p792 := eq_true p792; replace q792 := eq_true q792
       go_wp2
       go_ret; exact qN
      rw [if_neg c6] at H; have c6b0 := beq_eq_false_iff_ne.mpr c6; have c6b1 := bne_iff_ne.mpr c6; have H' := Aside0.mk H; clear H; have p792 : 0 ≤ (x8_1 : Int) := qD; have q792 : x8_1 < (l0.length : Int) := qD; obtain ⟨ad792, e792, hx792_0⟩ := Kd.at_string HR0.out x8_1 p792 q792; cases e792; replace p792 := eq_true p792; replace q792 := eq_true q792
      go_wp2
      go_roundg k1
      case measure => have := HK1.out; omega
      case rel => exact ⟨(wrap64 (x8_1 + 1)), qE, H', ⟨by have := HK1.out; omega⟩, by repeat (first | exact Drawn0.refl _ | apply Drawn0.step)⟩
     exact absurd H (by simp)
    rw [if_neg c4] at H
    exact absurd H (by simp)
   obtain rfl := Option.some.inj H
   go_wp2
   go_ret
   exact qN
def slices_Contains_string_string.f (k : Nat) (l0 : List ByteArray) (a1 : ByteArray) : Option (Bool) := (slices_Index_string_string.f k l0 a1).bind fun t793 => (some (decide (t793 ≥ 0)))
set_option maxHeartbeats 8000000 in
set_option maxRecDepth 100000 in
theorem slices_Contains_string_string.calls (k : Nat) (A0 : Option Addr) (c0 : Nat) (l0 : List ByteArray) (a1 : ByteArray) (r : Bool) (w : World) (hr0 : Kd.C Kd.string w A0 l0.length l0) (hc0 : l0.length ≤ c0) (h : slices_Contains_string_string.f k l0 a1 = some r) :
  Calls Tryd.prog 117 #[.slice A0 l0.length c0, .string a1] w fun e w' => e = .returned (.bool r) ∧ Drawn0 w w' := by
 have HR0 := Aside0.mk hr0
 have HC0 := Aside0.mk hc0
 clear hr0 hc0
 have H : ((slices_Index_string_string.f k l0 a1).bind fun t793 => (some (decide (t793 ≥ 0)))) = some r := h
 clear h
 replace H := Option.bind_eq_some_iff.mp H
 obtain ⟨t793, A30, H⟩ := H
 (try dsimp -simprocs only at H)
 have A3 := Aside0.mk A30
 clear A30
 obtain rfl := Option.some.inj H
 go_enter Tryd.func117, Tryd.ntmps117
 go_wp2_with (first | ((with_reducible refine gc 143 rfl ?_); refine gl (some 7) #[.slice A0 l0.length c0, .string a1] Tryd.func143 ?_; (with_reducible refine (slices_Index_string_string.calls k _ _ l0 a1 t793 _ ?side1 ?side2 A3.out).mono ?_); (case side1 => repeat (first | exact HR0.out | (with_reducible refine Kd.C_alloc ?_ _) | (with_reducible refine Kd.C_drewN ?_ _) | (with_reducible refine Kd.C_drew ?_))); (case side2 => exact HC0.out); rintro e w' ⟨rfl, ⟨nd, rfl⟩⟩; refine ⟨_, rfl, ?_⟩))
 go_ret
 exact qN
mutual
def val_Result.j0 : Nat → Int → Int → Int → Bool → Option (Int × Bool)
 | 0, _, _, _, _ => none
 | k + 1, x1, x2, x8, x31 => if x31 = true then (if x1 = 1 then (some (1, (x2 == 1))) else (some (1, false))) else (if x8 = 8 then (val_Result.j1 k x1 x2 x8 (x8 == 8)) else (if x8 = 9 then (val_Result.j1 k x1 x2 x8 (x8 == 9)) else (if x8 = 10 then (val_Result.j1 k x1 x2 x8 (x8 == 10)) else (val_Result.j1 k x1 x2 x8 (x8 == 11)))))
def val_Result.j1 : Nat → Int → Int → Int → Bool → Option (Int × Bool)
 | 0, _, _, _, _ => none
 | k + 1, x1, x2, x8, x42 => if x42 = true then (if x1 = x2 then (if x1 = 1 then (some (2, true)) else (some (2, (x1 == 3)))) else (some (2, false))) else (if x8 = 12 then (val_Result.j2 k x1 x2 x8 (x8 == 12)) else (val_Result.j2 k x1 x2 x8 (x8 == 13)))
def val_Result.j2 : Nat → Int → Int → Int → Bool → Option (Int × Bool)
 | 0, _, _, _, _ => none
 | k + 1, x1, x2, x8, x58 => if x58 = true then (if x1 = x2 then (if x1 ≥ 1 then (some (2, decide (x1 ≤ 3))) else (some (2, false))) else (some (2, false))) else (if x8 = 14 then (if x1 = 2 then (some (2, (x2 == 2))) else (some (2, false))) else (if x8 = 15 then (if x1 = 2 then (some (2, (x2 == 2))) else (some (2, false))) else (some (0, false))))
end
def val_Result.f (k : Nat) (a0 : Int) (a1 : Int) (a2 : Int) : Option (Int × Bool) := if a0 = 1 then (some (2, (a1 == 2))) else (if a0 = 2 then (some (1, (a1 == 1))) else (if a0 = 6 then (if a1 = a2 then (if a1 = 1 then (some (a1, true)) else (some (a1, (a1 == 3)))) else (some (a1, false))) else (if a0 = 3 then (val_Result.j0 k a1 a2 a0 (a0 == 3)) else (if a0 = 4 then (val_Result.j0 k a1 a2 a0 (a0 == 4)) else (if a0 = 5 then (val_Result.j0 k a1 a2 a0 (a0 == 5)) else (val_Result.j0 k a1 a2 a0 (a0 == 7)))))))
set_option maxHeartbeats 8000000 in
set_option maxRecDepth 100000 in
theorem val_Result.calls (k : Nat) (a0 : Int) (a1 : Int) (a2 : Int) (r1 : Int) (r2 : Bool) (w : World) (h : val_Result.f k a0 a1 a2 = some (r1, r2)) :
  Calls Tryd.prog 118 #[.int .i64 a0, .int .i64 a1, .int .i64 a2] w fun e w' => e = .returned (.tuple #[.int .i64 r1, .bool r2]) ∧ Drawn0 w w' := by
 have H : (if a0 = 1 then (some (2, (a1 == 2))) else (if a0 = 2 then (some (1, (a1 == 1))) else (if a0 = 6 then (if a1 = a2 then (if a1 = 1 then (some (a1, true)) else (some (a1, (a1 == 3)))) else (some (a1, false))) else (if a0 = 3 then (val_Result.j0 k a1 a2 a0 (a0 == 3)) else (if a0 = 4 then (val_Result.j0 k a1 a2 a0 (a0 == 4)) else (if a0 = 5 then (val_Result.j0 k a1 a2 a0 (a0 == 5)) else (val_Result.j0 k a1 a2 a0 (a0 == 7)))))))) = some (r1, r2) := h
 clear h
 by_cases c4 : a0 = 1
 ·rw [if_pos c4] at H
  have c4b0 := beq_iff_eq.mpr c4
  have c4b1 := bne_eq_false_iff_eq.mpr c4
  clear c4
  simp only [Option.some.injEq, Prod.mk.injEq] at H
  obtain ⟨rfl, rfl⟩ := H
  go_enter Tryd.func118, Tryd.ntmps118
  go_wp2
  go_ret2
  exact qN
 rw [if_neg c4] at H
 have c4b0 := beq_eq_false_iff_ne.mpr c4
 have c4b1 := bne_iff_ne.mpr c4
 by_cases c5 : a0 = 2
 ·rw [if_pos c5] at H
  have c5b0 := beq_iff_eq.mpr c5
  have c5b1 := bne_eq_false_iff_eq.mpr c5
  clear c5
  simp only [Option.some.injEq, Prod.mk.injEq] at H
  obtain ⟨rfl, rfl⟩ := H
  go_enter Tryd.func118, Tryd.ntmps118
  go_wp2
  go_ret2
  exact qN
 rw [if_neg c5] at H
 have c5b0 := beq_eq_false_iff_ne.mpr c5
 have c5b1 := bne_iff_ne.mpr c5
 by_cases c6 : a0 = 6
 ·rw [if_pos c6] at H
  have c6b0 := beq_iff_eq.mpr c6
  have c6b1 := bne_eq_false_iff_eq.mpr c6
  clear c6
  by_cases c7 : a1 = a2
  ·rw [if_pos c7] at H
   have c7b0 := beq_iff_eq.mpr c7
   have c7b1 := bne_eq_false_iff_eq.mpr c7
   clear c7
   by_cases c8 : a1 = 1
   ·rw [if_pos c8] at H
    have c8b0 := beq_iff_eq.mpr c8
    have c8b1 := bne_eq_false_iff_eq.mpr c8
    clear c8
    simp only [Option.some.injEq, Prod.mk.injEq] at H
    obtain ⟨rfl, rfl⟩ := H
    go_enter Tryd.func118, Tryd.ntmps118
    go_wp2
    go_ret2
    exact qN
   rw [if_neg c8] at H
   have c8b0 := beq_eq_false_iff_ne.mpr c8
   have c8b1 := bne_iff_ne.mpr c8
   simp only [Option.some.injEq, Prod.mk.injEq] at H
   obtain ⟨rfl, rfl⟩ := H
   go_enter Tryd.func118, Tryd.ntmps118
   go_wp2
   go_ret2
   exact qN
  rw [if_neg c7] at H
  have c7b0 := beq_eq_false_iff_ne.mpr c7
  have c7b1 := bne_iff_ne.mpr c7
  simp only [Option.some.injEq, Prod.mk.injEq] at H
  obtain ⟨rfl, rfl⟩ := H
  go_enter Tryd.func118, Tryd.ntmps118
  go_wp2
  go_ret2
  exact qN
 rw [if_neg c6] at H
 have c6b0 := beq_eq_false_iff_ne.mpr c6
 have c6b1 := bne_iff_ne.mpr c6
 have HC9 := Aside0.mk H
 clear H
 go_enter Tryd.func118, Tryd.ntmps118
 go_upto_if 31 with (fail)
 go_cut [31] (fun v31 wc => ∃ (kq : Nat) (x31_8 : Bool), v31 = .bool x31_8 ∧ Aside0 (val_Result.j0 kq a1 a2 a0 x31_8 = some (r1, r2)) ∧ Aside0 (kq ≤ k) ∧ Drawn0 w wc)
 case first =>
  have H := HC9.out
  clear HC9
  by_cases c10 : a0 = 3
  ·rw [if_pos c10] at H
   have c10b0 := beq_iff_eq.mpr c10
   have c10b1 := bne_eq_false_iff_eq.mpr c10
   clear c10
   (first | rw [c10b0] | (simp only [i64_w, i32_w]; rw [c10b0]) | skip)
   have H' := Aside0.mk H
   clear H
   go_wp2
   go_meet
   case rel => exact ⟨_, ((a0 == 3)), qE, H', ⟨by first | omega | exact Nat.le_refl _⟩, by repeat (first | exact Drawn0.refl _ | apply Drawn0.step)⟩
  rw [if_neg c10] at H
  have c10b0 := beq_eq_false_iff_ne.mpr c10
  have c10b1 := bne_iff_ne.mpr c10
  (first | rw [c10b0] | (simp only [i64_w, i32_w]; rw [c10b0]) | skip)
  by_cases c11 : a0 = 4
  ·rw [if_pos c11] at H
   have c11b0 := beq_iff_eq.mpr c11
   have c11b1 := bne_eq_false_iff_eq.mpr c11
   clear c11
   have H' := Aside0.mk H
   clear H
   go_wp2
   go_meet
   case rel => exact ⟨_, ((a0 == 4)), qE, H', ⟨by first | omega | exact Nat.le_refl _⟩, by repeat (first | exact Drawn0.refl _ | apply Drawn0.step)⟩
  rw [if_neg c11] at H
  have c11b0 := beq_eq_false_iff_ne.mpr c11
  have c11b1 := bne_iff_ne.mpr c11
  by_cases c12 : a0 = 5
  ·rw [if_pos c12] at H
   have c12b0 := beq_iff_eq.mpr c12
   have c12b1 := bne_eq_false_iff_eq.mpr c12
   clear c12
   have H' := Aside0.mk H
   clear H
   go_wp2
   go_meet
   case rel => exact ⟨_, ((a0 == 5)), qE, H', ⟨by first | omega | exact Nat.le_refl _⟩, by repeat (first | exact Drawn0.refl _ | apply Drawn0.step)⟩
  rw [if_neg c12] at H
  have c12b0 := beq_eq_false_iff_ne.mpr c12
  have c12b1 := bne_iff_ne.mpr c12
  have H' := Aside0.mk H
  clear H
  go_wp2
  go_meet
  case rel => exact ⟨_, ((a0 == 7)), qE, H', ⟨by first | omega | exact Nat.le_refl _⟩, by repeat (first | exact Drawn0.refl _ | apply Drawn0.step)⟩
 case rest =>
  clear HC9
  try clear p2
  obtain ⟨kq, x31_8, rfl, HA, HJ8, ⟨mc8, rfl⟩⟩ := hcut
  cases kq with
  | zero => exact absurd HA.out (by simp [val_Result.j0])
  | succ kj8 =>
   have H := HA.out
   clear HA
   simp only [val_Result.j0] at H
   by_cases c13 : x31_8 = true
   ·subst c13
    rw [if_pos rfl] at H
    by_cases c14 : a1 = 1
    ·rw [if_pos c14] at H; have c14b0 := beq_iff_eq.mpr c14; have c14b1 := bne_eq_false_iff_eq.mpr c14; clear c14; simp only [Option.some.injEq, Prod.mk.injEq] at H; obtain ⟨rfl, rfl⟩ := H
     go_wp2
     go_ret2; exact qN
    rw [if_neg c14] at H
    have c14b0 := beq_eq_false_iff_ne.mpr c14
    have c14b1 := bne_iff_ne.mpr c14
    simp only [Option.some.injEq, Prod.mk.injEq] at H
    obtain ⟨rfl, rfl⟩ := H
    go_wp2
    go_ret2
    exact qN
   replace c13 := Bool.eq_false_iff.mpr c13
   subst c13
   rw [if_neg (show ¬ (false = true) by decide)] at H
   have HC15 := Aside0.mk H
   clear H
   go_upto_if 42 with (fail)
   go_cut [42] (fun v42 wc => ∃ (kq : Nat) (x42_14 : Bool), v42 = .bool x42_14 ∧ Aside0 (val_Result.j1 kq a1 a2 a0 x42_14 = some (r1, r2)) ∧ Aside0 (kq ≤ kj8) ∧ Drawn0 w wc)
   case first =>
    have H := HC15.out
    clear HC15
    by_cases c16 : a0 = 8
    ·rw [if_pos c16] at H; have c16b0 := beq_iff_eq.mpr c16; have c16b1 := bne_eq_false_iff_eq.mpr c16; clear c16; (first | rw [c16b0] | (simp only [i64_w, i32_w]; rw [c16b0]) | skip); have H' := Aside0.mk H; clear H
     go_wp2
     go_meet
     case rel => exact ⟨_, ((a0 == 8)), qE, H', ⟨by have := HJ8.out; first | omega | exact Nat.le_refl _⟩, by repeat (first | exact Drawn0.refl _ | apply Drawn0.step)⟩
    rw [if_neg c16] at H
    have c16b0 := beq_eq_false_iff_ne.mpr c16
    have c16b1 := bne_iff_ne.mpr c16
    (first | rw [c16b0] | (simp only [i64_w, i32_w]; rw [c16b0]) | skip)
    by_cases c17 : a0 = 9
    ·rw [if_pos c17] at H; have c17b0 := beq_iff_eq.mpr c17; have c17b1 := bne_eq_false_iff_eq.mpr c17; clear c17; have H' := Aside0.mk H; clear H
     go_wp2
     go_meet
     case rel => exact ⟨_, ((a0 == 9)), qE, H', ⟨by have := HJ8.out; first | omega | exact Nat.le_refl _⟩, by repeat (first | exact Drawn0.refl _ | apply Drawn0.step)⟩
    rw [if_neg c17] at H
    have c17b0 := beq_eq_false_iff_ne.mpr c17
    have c17b1 := bne_iff_ne.mpr c17
    by_cases c18 : a0 = 10
    ·rw [if_pos c18] at H; have c18b0 := beq_iff_eq.mpr c18; have c18b1 := bne_eq_false_iff_eq.mpr c18; clear c18; have H' := Aside0.mk H; clear H
     go_wp2
     go_meet
     case rel => exact ⟨_, ((a0 == 10)), qE, H', ⟨by have := HJ8.out; first | omega | exact Nat.le_refl _⟩, by repeat (first | exact Drawn0.refl _ | apply Drawn0.step)⟩
    rw [if_neg c18] at H
    have c18b0 := beq_eq_false_iff_ne.mpr c18
    have c18b1 := bne_iff_ne.mpr c18
    have H' := Aside0.mk H
    clear H
    go_wp2
    go_meet
    case rel => exact ⟨_, ((a0 == 11)), qE, H', ⟨by have := HJ8.out; first | omega | exact Nat.le_refl _⟩, by repeat (first | exact Drawn0.refl _ | apply Drawn0.step)⟩
   case rest =>
    clear HC15
    try clear p2 p2
    obtain ⟨kq, x42_14, rfl, HA, HJ14, ⟨mc14, rfl⟩⟩ := hcut
    cases kq with
    | zero => exact absurd HA.out (by simp [val_Result.j1])
    | succ kj14 =>
     have H := HA.out; clear HA; simp only [val_Result.j1] at H
     by_cases c19 : x42_14 = true
     ·subst c19; rw [if_pos rfl] at H
      by_cases c20 : a1 = a2
      ·rw [if_pos c20] at H; have c20b0 := beq_iff_eq.mpr c20; have c20b1 := bne_eq_false_iff_eq.mpr c20; clear c20
       by_cases c21 : a1 = 1
       ·rw [if_pos c21] at H; have c21b0 := beq_iff_eq.mpr c21; have c21b1 := bne_eq_false_iff_eq.mpr c21; clear c21; simp only [Option.some.injEq, Prod.mk.injEq] at H; obtain ⟨rfl, rfl⟩ := H
        go_wp2
        go_ret2; exact qN
       rw [if_neg c21] at H; have c21b0 := beq_eq_false_iff_ne.mpr c21; have c21b1 := bne_iff_ne.mpr c21; simp only [Option.some.injEq, Prod.mk.injEq] at H; obtain ⟨rfl, rfl⟩ := H
       go_wp2
       go_ret2; exact qN
      rw [if_neg c20] at H; have c20b0 := beq_eq_false_iff_ne.mpr c20; have c20b1 := bne_iff_ne.mpr c20; simp only [Option.some.injEq, Prod.mk.injEq] at H; obtain ⟨rfl, rfl⟩ := H
      go_wp2
      go_ret2; exact qN
     replace c19 := Bool.eq_false_iff.mpr c19; subst c19; rw [if_neg (show ¬ (false = true) by decide)] at H; have HC22 := Aside0.mk H; clear H
     go_upto_if 58 with (fail)
     go_cut [58] (fun v58 wc => ∃ (kq : Nat) (x58_21 : Bool), v58 = .bool x58_21 ∧ Aside0 (val_Result.j2 kq a1 a2 a0 x58_21 = some (r1, r2)) ∧ Aside0 (kq ≤ kj14) ∧ Drawn0 w wc)
     case first =>
      have H := HC22.out; clear HC22
      by_cases c23 : a0 = 12
      ·rw [if_pos c23] at H; have c23b0 := beq_iff_eq.mpr c23; have c23b1 := bne_eq_false_iff_eq.mpr c23; clear c23; (first | rw [c23b0] | (simp only [i64_w, i32_w]; rw [c23b0]) | skip); have H' := Aside0.mk H; clear H
       go_wp2
       go_meet
       case rel => exact ⟨_, ((a0 == 12)), qE, H', ⟨by have := HJ8.out; have := HJ14.out; first | omega | exact Nat.le_refl _⟩, by repeat (first | exact Drawn0.refl _ | apply Drawn0.step)⟩
      rw [if_neg c23] at H; have c23b0 := beq_eq_false_iff_ne.mpr c23; have c23b1 := bne_iff_ne.mpr c23; (first | rw [c23b0] | (simp only [i64_w, i32_w]; rw [c23b0]) | skip); have H' := Aside0.mk H; clear H
      go_wp2
      go_meet
      case rel => exact ⟨_, ((a0 == 13)), qE, H', ⟨by have := HJ8.out; have := HJ14.out; first | omega | exact Nat.le_refl _⟩, by repeat (first | exact Drawn0.refl _ | apply Drawn0.step)⟩
     case rest =>
      clear HC22
      try clear p2 p2
      obtain ⟨kq, x58_21, rfl, HA, HJ21, ⟨mc21, rfl⟩⟩ := hcut; cases kq with
      | zero => exact absurd HA.out (by simp [val_Result.j2])
      | succ kj21 =>
       have H := HA.out; clear HA; simp only [val_Result.j2] at H
       by_cases c24 : x58_21 = true
       ·subst c24; rw [if_pos rfl] at H
        by_cases c25 : a1 = a2
        ·rw [if_pos c25] at H; have c25b0 := beq_iff_eq.mpr c25; have c25b1 := bne_eq_false_iff_eq.mpr c25; clear c25; replace H := iD H
         rcases H with ⟨c26b0, H⟩ | ⟨c26b0, H⟩
         ·simp only [Option.some.injEq, Prod.mk.injEq] at H; obtain ⟨rfl, rfl⟩ := H
          go_wp2
          go_ret2; exact qN
         simp only [Option.some.injEq, Prod.mk.injEq] at H; obtain ⟨rfl, rfl⟩ := H
         go_wp2
         go_ret2; exact qN
        rw [if_neg c25] at H; have c25b0 := beq_eq_false_iff_ne.mpr c25; have c25b1 := bne_iff_ne.mpr c25; simp only [Option.some.injEq, Prod.mk.injEq] at H; obtain ⟨rfl, rfl⟩ := H
        go_wp2
        go_ret2; exact qN
       replace c24 := Bool.eq_false_iff.mpr c24; subst c24; rw [if_neg (show ¬ (false = true) by decide)] at H
       by_cases c27 : a0 = 14
       ·rw [if_pos c27] at H; have c27b0 := beq_iff_eq.mpr c27; have c27b1 := bne_eq_false_iff_eq.mpr c27; clear c27
        by_cases c28 : a1 = 2
        ·rw [if_pos c28] at H; have c28b0 := beq_iff_eq.mpr c28; have c28b1 := bne_eq_false_iff_eq.mpr c28; clear c28; simp only [Option.some.injEq, Prod.mk.injEq] at H; obtain ⟨rfl, rfl⟩ := H
         go_wp2
         go_ret2; exact qN
        rw [if_neg c28] at H; have c28b0 := beq_eq_false_iff_ne.mpr c28; have c28b1 := bne_iff_ne.mpr c28; simp only [Option.some.injEq, Prod.mk.injEq] at H; obtain ⟨rfl, rfl⟩ := H
        go_wp2
        go_ret2; exact qN
       rw [if_neg c27] at H; have c27b0 := beq_eq_false_iff_ne.mpr c27; have c27b1 := bne_iff_ne.mpr c27
       by_cases c29 : a0 = 15
       ·rw [if_pos c29] at H; have c29b0 := beq_iff_eq.mpr c29; have c29b1 := bne_eq_false_iff_eq.mpr c29; clear c29
        by_cases c30 : a1 = 2
        ·rw [if_pos c30] at H; have c30b0 := beq_iff_eq.mpr c30; have c30b1 := bne_eq_false_iff_eq.mpr c30; clear c30; simp only [Option.some.injEq, Prod.mk.injEq] at H; obtain ⟨rfl, rfl⟩ := H
         go_wp2
         go_ret2; exact qN
        rw [if_neg c30] at H; have c30b0 := beq_eq_false_iff_ne.mpr c30; have c30b1 := bne_iff_ne.mpr c30; simp only [Option.some.injEq, Prod.mk.injEq] at H; obtain ⟨rfl, rfl⟩ := H
        go_wp2
        go_ret2; exact qN
       rw [if_neg c29] at H; have c29b0 := beq_eq_false_iff_ne.mpr c29; have c29b1 := bne_iff_ne.mpr c29; simp only [Option.some.injEq, Prod.mk.injEq] at H; obtain ⟨rfl, rfl⟩ := H
       go_wp2
       go_ret2; exact qN
def val_over.f (a0 : Int) (a1 : Bool) : Option (Int × Int × ByteArray × Int) := if a1 = true then (some (0, 0, (⟨#[]⟩ : ByteArray), 21)) else ((val_Of.f a0).bind fun bt921 => (some (bt921.1, bt921.2.1, bt921.2.2, 0)))
set_option maxHeartbeats 8000000 in
set_option maxRecDepth 100000 in
theorem val_over.calls (a0 : Int) (a1 : Bool) (r1 : Int) (r2 : Int) (r3 : ByteArray) (r4 : Int) (w : World) (h : val_over.f a0 a1 = some (r1, r2, r3, r4)) :
  Calls Tryd.prog 146 #[.int .i64 a0, .bool a1] w fun e w' => e = .returned (.tuple #[.agg #[.int .i64 r1, .int .i64 r2, .string r3], .int .i64 r4]) ∧ Below w.heap.size w w' := by
 have hu103 := Tryd.underlying103
 have HB := Aside0.mk (Below.refl w.heap.size w)
 have H : (if a1 = true then (some (0, 0, (⟨#[]⟩ : ByteArray), 21)) else ((val_Of.f a0).bind fun bt921 => (some (bt921.1, bt921.2.1, bt921.2.2, 0)))) = some (r1, r2, r3, r4) := h
 clear h
 by_cases c3 : a1 = true
 ·subst c3
  rw [if_pos rfl] at H
  simp only [Option.some.injEq, Prod.mk.injEq] at H
  obtain ⟨rfl, rfl, rfl, rfl⟩ := H
  go_enter Tryd.func146, Tryd.ntmps146
  go_wp2_with (first | ((with_reducible refine gd 4 rfl ?_); refine bxx 4 #[.int .i64 0, .int .i64 0, .string (⟨#[]⟩ : ByteArray)] 103 ?_; intro gb920 w4 BK920 GW920 HB; obtain ⟨_, _, _, _, _, _⟩ := cells3 BK920.out))
  refine rct gb920 103 #[.int .i64 0, .int .i64 0, .string (⟨#[]⟩ : ByteArray)] Tryd.underlying103 ?_
  exact ⟨qR, qB⟩
 replace c3 := Bool.eq_false_iff.mpr c3
 subst c3
 rw [if_neg (show ¬ (false = true) by decide)] at H
 replace H := Option.bind_eq_some_iff.mp H
 obtain ⟨⟨t921, t922, t923⟩, A60, H⟩ := H
 (try dsimp -simprocs only at H)
 have A6 := Aside0.mk A60
 clear A60
 simp only [Option.some.injEq, Prod.mk.injEq] at H
 obtain ⟨rfl, rfl, rfl, rfl⟩ := H
 go_enter Tryd.func146, Tryd.ntmps146
 go_wp2_with (first | ((with_reducible refine gd 4 rfl ?_); refine bxx 4 #[.int .i64 0, .int .i64 0, .string (⟨#[]⟩ : ByteArray)] 103 ?_; intro gb920 w7 BK920 GW920 HB) | ((with_reducible refine gc 96 rfl ?_); refine gl (some 9) #[.int .i64 a0] Tryd.func96 ?_; (with_reducible refine (val_Of.calls a0 t921 t922 t923 _ A6.out).mono ?_); rintro e w8 ⟨rfl, hb⟩; refine ⟨_, rfl, ?_⟩; replace BK920 := kb gb920 hb; replace HB := bst hb; (try clear hb); obtain ⟨_, _, _, _, _, _⟩ := cells3 BK920.out))
 refine rct gb920 103 #[.int .i64 t921, .int .i64 t922, .string t923] Tryd.underlying103 ?_
 exact ⟨qR, qB⟩
def val_order.f (a0 : Int) (a1 : Int) : Option (Int × Int × ByteArray) := if a0 = 8 then ((val_Truth.f (decide (a1 < 0))).bind fun bt925 => (some (bt925.1, bt925.2.1, bt925.2.2))) else (if a0 = 9 then ((val_Truth.f (decide (a1 ≤ 0))).bind fun bt928 => (some (bt928.1, bt928.2.1, bt928.2.2))) else (if a0 = 10 then ((val_Truth.f (decide (a1 > 0))).bind fun bt931 => (some (bt931.1, bt931.2.1, bt931.2.2))) else ((val_Truth.f (decide (a1 ≥ 0))).bind fun bt934 => (some (bt934.1, bt934.2.1, bt934.2.2)))))
set_option maxHeartbeats 8000000 in
set_option maxRecDepth 100000 in
theorem val_order.calls (a0 : Int) (a1 : Int) (r1 : Int) (r2 : Int) (r3 : ByteArray) (w : World) (h : val_order.f a0 a1 = some (r1, r2, r3)) :
  Calls Tryd.prog 147 #[.int .i64 a0, .int .i64 a1] w fun e w' => e = .returned (.agg #[.int .i64 r1, .int .i64 r2, .string r3]) ∧ Below w.heap.size w w' := by
 have hu103 := Tryd.underlying103
 have HB := Aside0.mk (Below.refl w.heap.size w)
 have H : (if a0 = 8 then ((val_Truth.f (decide (a1 < 0))).bind fun bt925 => (some (bt925.1, bt925.2.1, bt925.2.2))) else (if a0 = 9 then ((val_Truth.f (decide (a1 ≤ 0))).bind fun bt928 => (some (bt928.1, bt928.2.1, bt928.2.2))) else (if a0 = 10 then ((val_Truth.f (decide (a1 > 0))).bind fun bt931 => (some (bt931.1, bt931.2.1, bt931.2.2))) else ((val_Truth.f (decide (a1 ≥ 0))).bind fun bt934 => (some (bt934.1, bt934.2.1, bt934.2.2)))))) = some (r1, r2, r3) := h
 clear h
 by_cases c3 : a0 = 8
 ·rw [if_pos c3] at H
  have c3b0 := beq_iff_eq.mpr c3
  have c3b1 := bne_eq_false_iff_eq.mpr c3
  clear c3
  replace H := Option.bind_eq_some_iff.mp H
  obtain ⟨⟨t925, t926, t927⟩, A40, H⟩ := H
  (try dsimp -simprocs only at H)
  have A4 := Aside0.mk A40
  clear A40
  simp only [Option.some.injEq, Prod.mk.injEq] at H
  obtain ⟨rfl, rfl, rfl⟩ := H
  go_enter Tryd.func147, Tryd.ntmps147
  go_wp2_with (first | ((with_reducible refine gd 4 rfl ?_); refine bxx 4 #[.int .i64 0, .int .i64 0, .string (⟨#[]⟩ : ByteArray)] 103 ?_; intro gb924 w5 BK924 GW924 HB) | ((with_reducible refine gc 65 rfl ?_); refine gl (some 10) #[.bool (decide (a1 < 0))] Tryd.func65 ?_; (with_reducible refine (val_Truth.calls (decide (a1 < 0)) t925 t926 t927 _ A4.out).mono ?_); rintro e w6 ⟨rfl, hb⟩; refine ⟨_, rfl, ?_⟩; replace BK924 := kb gb924 hb; replace HB := bst hb; (try clear hb); obtain ⟨_, _, _, _, _, _⟩ := cells3 BK924.out))
  refine bodyPost_ret (results_cell_row rfl _ _ gb924 103 #[.int .i64 t925, .int .i64 t926, .string t927] (0, 0) _ rfl qP Tryd.underlying103 rfl (by kernel_rfl)) rfl ?_
  exact ⟨qR, qB⟩
 rw [if_neg c3] at H
 have c3b0 := beq_eq_false_iff_ne.mpr c3
 have c3b1 := bne_iff_ne.mpr c3
 by_cases c8 : a0 = 9
 ·rw [if_pos c8] at H
  have c8b0 := beq_iff_eq.mpr c8
  have c8b1 := bne_eq_false_iff_eq.mpr c8
  clear c8
  replace H := Option.bind_eq_some_iff.mp H
  obtain ⟨⟨t928, t929, t930⟩, A90, H⟩ := H
  (try dsimp -simprocs only at H)
  have A9 := Aside0.mk A90
  clear A90
  simp only [Option.some.injEq, Prod.mk.injEq] at H
  obtain ⟨rfl, rfl, rfl⟩ := H
  go_enter Tryd.func147, Tryd.ntmps147
  go_wp2_with (first | ((with_reducible refine gd 4 rfl ?_); refine bxx 4 #[.int .i64 0, .int .i64 0, .string (⟨#[]⟩ : ByteArray)] 103 ?_; intro gb924 w10 BK924 GW924 HB) | ((with_reducible refine gc 65 rfl ?_); refine gl (some 15) #[.bool (decide (a1 ≤ 0))] Tryd.func65 ?_; (with_reducible refine (val_Truth.calls (decide (a1 ≤ 0)) t928 t929 t930 _ A9.out).mono ?_); rintro e w11 ⟨rfl, hb⟩; refine ⟨_, rfl, ?_⟩; replace BK924 := kb gb924 hb; replace HB := bst hb; (try clear hb); obtain ⟨_, _, _, _, _, _⟩ := cells3 BK924.out))
  refine bodyPost_ret (results_cell_row rfl _ _ gb924 103 #[.int .i64 t928, .int .i64 t929, .string t930] (0, 0) _ rfl qP Tryd.underlying103 rfl (by kernel_rfl)) rfl ?_
  exact ⟨qR, qB⟩
 rw [if_neg c8] at H
 have c8b0 := beq_eq_false_iff_ne.mpr c8
 have c8b1 := bne_iff_ne.mpr c8
 by_cases c13 : a0 = 10
 ·rw [if_pos c13] at H
  have c13b0 := beq_iff_eq.mpr c13
  have c13b1 := bne_eq_false_iff_eq.mpr c13
  clear c13
  replace H := Option.bind_eq_some_iff.mp H
  obtain ⟨⟨t931, t932, t933⟩, A140, H⟩ := H
  (try dsimp -simprocs only at H)
  have A14 := Aside0.mk A140
  clear A140
  simp only [Option.some.injEq, Prod.mk.injEq] at H
  obtain ⟨rfl, rfl, rfl⟩ := H
  go_enter Tryd.func147, Tryd.ntmps147
  go_wp2_with (first | ((with_reducible refine gd 4 rfl ?_); refine bxx 4 #[.int .i64 0, .int .i64 0, .string (⟨#[]⟩ : ByteArray)] 103 ?_; intro gb924 w15 BK924 GW924 HB) | ((with_reducible refine gc 65 rfl ?_); refine gl (some 20) #[.bool (decide (a1 > 0))] Tryd.func65 ?_; (with_reducible refine (val_Truth.calls (decide (a1 > 0)) t931 t932 t933 _ A14.out).mono ?_); rintro e w16 ⟨rfl, hb⟩; refine ⟨_, rfl, ?_⟩; replace BK924 := kb gb924 hb; replace HB := bst hb; (try clear hb); obtain ⟨_, _, _, _, _, _⟩ := cells3 BK924.out))
  refine bodyPost_ret (results_cell_row rfl _ _ gb924 103 #[.int .i64 t931, .int .i64 t932, .string t933] (0, 0) _ rfl qP Tryd.underlying103 rfl (by kernel_rfl)) rfl ?_
  exact ⟨qR, qB⟩
 rw [if_neg c13] at H
 have c13b0 := beq_eq_false_iff_ne.mpr c13
 have c13b1 := bne_iff_ne.mpr c13
 replace H := Option.bind_eq_some_iff.mp H
 obtain ⟨⟨t934, t935, t936⟩, A180, H⟩ := H
 (try dsimp -simprocs only at H)
 have A18 := Aside0.mk A180
 clear A180
 simp only [Option.some.injEq, Prod.mk.injEq] at H
 obtain ⟨rfl, rfl, rfl⟩ := H
 go_enter Tryd.func147, Tryd.ntmps147
 go_wp2_with (first | ((with_reducible refine gd 4 rfl ?_); refine bxx 4 #[.int .i64 0, .int .i64 0, .string (⟨#[]⟩ : ByteArray)] 103 ?_; intro gb924 w19 BK924 GW924 HB) | ((with_reducible refine gc 65 rfl ?_); refine gl (some 23) #[.bool (decide (a1 ≥ 0))] Tryd.func65 ?_; (with_reducible refine (val_Truth.calls (decide (a1 ≥ 0)) t934 t935 t936 _ A18.out).mono ?_); rintro e w20 ⟨rfl, hb⟩; refine ⟨_, rfl, ?_⟩; replace BK924 := kb gb924 hb; replace HB := bst hb; (try clear hb); obtain ⟨_, _, _, _, _, _⟩ := cells3 BK924.out))
 refine bodyPost_ret (results_cell_row rfl _ _ gb924 103 #[.int .i64 t934, .int .i64 t935, .string t936] (0, 0) _ rfl qP Tryd.underlying103 rfl (by kernel_rfl)) rfl ?_
 exact ⟨qR, qB⟩
def cmp_Or_int.l0 : Nat → Int → List Int → Int → Int → Option (Int)
 | 0, _, _, _, _ => none
 | k + 1, x3, x6, x7, x8 => if x8 < x7 then (if 0 ≤ x8 then (if x8 < (x6.length : Int) then (if (rd x6 x8) = x3 then (cmp_Or_int.l0 k x3 x6 x7 (wrap64 (x8 + 1))) else (some (rd x6 x8))) else (none)) else (none)) else (some x3)
def cmp_Or_int.f (k : Nat) (l0 : List Int) : Option (Int) := cmp_Or_int.l0 k 0 l0 (l0.length : Int) 0
set_option maxHeartbeats 8000000 in
set_option maxRecDepth 100000 in
theorem cmp_Or_int.calls (k : Nat) (A0 : Option Addr) (c0 : Nat) (l0 : List Int) (r : Int) (w : World) (hr0 : Kd.C (Kd.int .i64) w A0 l0.length l0) (hc0 : l0.length ≤ c0) (h : cmp_Or_int.f k l0 = some r) :
  Calls Tryd.prog 157 #[.slice A0 l0.length c0] w fun e w' => e = .returned (.int .i64 r) ∧ Drawn0 w w' := by
 have HR0 := Aside0.mk hr0
 have HC0 := Aside0.mk hc0
 clear hr0 hc0
 have H : (cmp_Or_int.l0 k 0 l0 (l0.length : Int) 0) = some r := h
 clear h
 have H' := Aside0.mk H
 clear H
 go_enter Tryd.func157, Tryd.ntmps157
 go_wp2
 go_loopg [8] k (fun kq v8 w' => ∃ (x8_1 : Int), v8 = .int .i64 x8_1 ∧ Aside0 (cmp_Or_int.l0 kq 0 l0 (l0.length : Int) x8_1 = some r) ∧ Aside0 (kq ≤ k) ∧ Drawn0 w w')
 case atStart => exact ⟨(0), qE, H', ⟨Nat.le_refl _⟩, by repeat (first | exact Drawn0.refl _ | apply Drawn0.step)⟩
 case round =>
  clear H'
  obtain ⟨x8_1, rfl, HA, HK1, ⟨m1, rfl⟩⟩ := hrel
  cases gk with
  | zero => exact absurd HA.out (by simp [cmp_Or_int.l0])
  | succ k1 =>
   have H := HA.out
   clear HA
   simp only [cmp_Or_int.l0] at H
   replace H := iD H
   rcases H with ⟨c2b0, H⟩ | ⟨c2b0, H⟩
   ·by_cases c3 : 0 ≤ x8_1
    ·rw [if_pos c3] at H; have c3b0 := decide_eq_true c3; clear c3; replace H := iD H
     rcases H with ⟨c4b0, H⟩ | ⟨c4b0, H⟩
     ·by_cases c5 : (rd l0 x8_1) = 0
      ·rw [if_pos c5] at H; have c5b0 := beq_iff_eq.mpr c5; have c5b1 := bne_eq_false_iff_eq.mpr c5; clear c5; have H' := Aside0.mk H; clear H; have p937 : 0 ≤ (x8_1 : Int) := qD; have q937 : x8_1 < (l0.length : Int) := qD; obtain ⟨ad937, e937, hx937_0⟩ := Kd.at_int HR0.out x8_1 p937 q937; cases e937; replace p937 := eq_true p937; replace q937 := eq_true q937
       go_wp2
       go_roundg k1
       case measure => have := HK1.out; omega
       case rel => exact ⟨(wrap64 (x8_1 + 1)), qE, H', ⟨by have := HK1.out; omega⟩, by repeat (first | exact Drawn0.refl _ | apply Drawn0.step)⟩
      rw [if_neg c5] at H; have c5b0 := beq_eq_false_iff_ne.mpr c5; have c5b1 := bne_iff_ne.mpr c5; obtain rfl := Option.some.inj H; have p937 : 0 ≤ (x8_1 : Int) := qD; have q937 : x8_1 < (l0.length : Int) := qD; obtain ⟨ad937, e937, hx937_0⟩ := Kd.at_int HR0.out x8_1 p937 q937; cases e937; replace p937 := eq_true p937; replace q937 := eq_true q937
      go_wp2
      go_ret; exact qN
     exact absurd H (by simp)
    rw [if_neg c3] at H
    exact absurd H (by simp)
   obtain rfl := Option.some.inj H
   go_wp2
   go_ret
   exact qN
def cmp_isNaN_int64.f (a0 : Int) : Option (Bool) := some (a0 != a0)
set_option maxHeartbeats 8000000 in
set_option maxRecDepth 100000 in
theorem cmp_isNaN_int64.calls (a0 : Int) (r : Bool) (w : World) (h : cmp_isNaN_int64.f a0 = some r) :
  Calls Tryd.prog 163 #[.int .i64 a0] w fun e w' => e = .returned (.bool r) ∧ Drawn0 w w' := by
 have H : (some (a0 != a0)) = some r := h
 clear h
 obtain rfl := Option.some.inj H
 go_enter Tryd.func163, Tryd.ntmps163
 go_wp2
 go_ret
 exact qN
def cmp_Compare_int64.f (a0 : Int) (a1 : Int) : Option (Int) := (cmp_isNaN_int64.f a0).bind fun t938 => ((cmp_isNaN_int64.f a1).bind fun t939 => (if t938 = true then (if t939 = true then (some 0) else (some (-1))) else (if t939 = true then (some 1) else (if a0 < a1 then (some (-1)) else (if a0 > a1 then (some 1) else (some 0))))))
set_option maxHeartbeats 8000000 in
set_option maxRecDepth 100000 in
theorem cmp_Compare_int64.calls (a0 : Int) (a1 : Int) (r : Int) (w : World) (h : cmp_Compare_int64.f a0 a1 = some r) :
  Calls Tryd.prog 158 #[.int .i64 a0, .int .i64 a1] w fun e w' => e = .returned (.int .i64 r) ∧ Drawn0 w w' := by
 have H : ((cmp_isNaN_int64.f a0).bind fun t938 => ((cmp_isNaN_int64.f a1).bind fun t939 => (if t938 = true then (if t939 = true then (some 0) else (some (-1))) else (if t939 = true then (some 1) else (if a0 < a1 then (some (-1)) else (if a0 > a1 then (some 1) else (some 0))))))) = some r := h
 clear h
 replace H := Option.bind_eq_some_iff.mp H
 obtain ⟨t938, A30, H⟩ := H
 (try dsimp -simprocs only at H)
 have A3 := Aside0.mk A30
 clear A30
 replace H := Option.bind_eq_some_iff.mp H
 obtain ⟨t939, A40, H⟩ := H
 (try dsimp -simprocs only at H)
 have A4 := Aside0.mk A40
 clear A40
 by_cases c5 : t938 = true
 ·subst c5
  rw [if_pos rfl] at H
  by_cases c6 : t939 = true
  ·subst c6
   rw [if_pos rfl] at H
   obtain rfl := Option.some.inj H
   go_enter Tryd.func158, Tryd.ntmps158
   go_wp2_with (first | ((with_reducible refine gc 163 rfl ?_); refine gl (some 8) #[.int .i64 a0] Tryd.func163 ?_; (with_reducible refine (cmp_isNaN_int64.calls a0 true _ A3.out).mono ?_); rintro e w' ⟨rfl, ⟨nd, rfl⟩⟩; refine ⟨_, rfl, ?_⟩) | ((with_reducible refine gc 163 rfl ?_); refine gl (some 10) #[.int .i64 a1] Tryd.func163 ?_; (with_reducible refine (cmp_isNaN_int64.calls a1 true _ A4.out).mono ?_); rintro e w' ⟨rfl, ⟨nd, rfl⟩⟩; refine ⟨_, rfl, ?_⟩))
   go_ret
   exact qN
  replace c6 := Bool.eq_false_iff.mpr c6
  subst c6
  rw [if_neg (show ¬ (false = true) by decide)] at H
  obtain rfl := Option.some.inj H
  go_enter Tryd.func158, Tryd.ntmps158
  go_wp2_with (first | ((with_reducible refine gc 163 rfl ?_); refine gl (some 8) #[.int .i64 a0] Tryd.func163 ?_; (with_reducible refine (cmp_isNaN_int64.calls a0 true _ A3.out).mono ?_); rintro e w' ⟨rfl, ⟨nd, rfl⟩⟩; refine ⟨_, rfl, ?_⟩) | ((with_reducible refine gc 163 rfl ?_); refine gl (some 10) #[.int .i64 a1] Tryd.func163 ?_; (with_reducible refine (cmp_isNaN_int64.calls a1 false _ A4.out).mono ?_); rintro e w' ⟨rfl, ⟨nd, rfl⟩⟩; refine ⟨_, rfl, ?_⟩))
  go_ret
  exact qN
 replace c5 := Bool.eq_false_iff.mpr c5
 subst c5
 rw [if_neg (show ¬ (false = true) by decide)] at H
 by_cases c7 : t939 = true
 ·subst c7
  rw [if_pos rfl] at H
  obtain rfl := Option.some.inj H
  go_enter Tryd.func158, Tryd.ntmps158
  go_wp2_with (first | ((with_reducible refine gc 163 rfl ?_); refine gl (some 8) #[.int .i64 a0] Tryd.func163 ?_; (with_reducible refine (cmp_isNaN_int64.calls a0 false _ A3.out).mono ?_); rintro e w' ⟨rfl, ⟨nd, rfl⟩⟩; refine ⟨_, rfl, ?_⟩) | ((with_reducible refine gc 163 rfl ?_); refine gl (some 10) #[.int .i64 a1] Tryd.func163 ?_; (with_reducible refine (cmp_isNaN_int64.calls a1 true _ A4.out).mono ?_); rintro e w' ⟨rfl, ⟨nd, rfl⟩⟩; refine ⟨_, rfl, ?_⟩))
  go_ret
  exact qN
 replace c7 := Bool.eq_false_iff.mpr c7
 subst c7
 rw [if_neg (show ¬ (false = true) by decide)] at H
 replace H := iD H
 rcases H with ⟨c8b0, H⟩ | ⟨c8b0, H⟩
 ·obtain rfl := Option.some.inj H
  go_enter Tryd.func158, Tryd.ntmps158
  go_wp2_with (first | ((with_reducible refine gc 163 rfl ?_); refine gl (some 8) #[.int .i64 a0] Tryd.func163 ?_; (with_reducible refine (cmp_isNaN_int64.calls a0 false _ A3.out).mono ?_); rintro e w' ⟨rfl, ⟨nd, rfl⟩⟩; refine ⟨_, rfl, ?_⟩) | ((with_reducible refine gc 163 rfl ?_); refine gl (some 10) #[.int .i64 a1] Tryd.func163 ?_; (with_reducible refine (cmp_isNaN_int64.calls a1 false _ A4.out).mono ?_); rintro e w' ⟨rfl, ⟨nd, rfl⟩⟩; refine ⟨_, rfl, ?_⟩))
  go_ret
  exact qN
 by_cases c9 : a0 > a1
 ·rw [if_pos c9] at H
  have c9b0 := decide_eq_true c9
  clear c9
  obtain rfl := Option.some.inj H
  go_enter Tryd.func158, Tryd.ntmps158
  go_wp2_with (first | ((with_reducible refine gc 163 rfl ?_); refine gl (some 8) #[.int .i64 a0] Tryd.func163 ?_; (with_reducible refine (cmp_isNaN_int64.calls a0 false _ A3.out).mono ?_); rintro e w' ⟨rfl, ⟨nd, rfl⟩⟩; refine ⟨_, rfl, ?_⟩) | ((with_reducible refine gc 163 rfl ?_); refine gl (some 10) #[.int .i64 a1] Tryd.func163 ?_; (with_reducible refine (cmp_isNaN_int64.calls a1 false _ A4.out).mono ?_); rintro e w' ⟨rfl, ⟨nd, rfl⟩⟩; refine ⟨_, rfl, ?_⟩))
  go_ret
  exact qN
 rw [if_neg c9] at H
 have c9b0 := decide_eq_false c9
 clear c9
 obtain rfl := Option.some.inj H
 go_enter Tryd.func158, Tryd.ntmps158
 go_wp2_with (first | ((with_reducible refine gc 163 rfl ?_); refine gl (some 8) #[.int .i64 a0] Tryd.func163 ?_; (with_reducible refine (cmp_isNaN_int64.calls a0 false _ A3.out).mono ?_); rintro e w' ⟨rfl, ⟨nd, rfl⟩⟩; refine ⟨_, rfl, ?_⟩) | ((with_reducible refine gc 163 rfl ?_); refine gl (some 10) #[.int .i64 a1] Tryd.func163 ?_; (with_reducible refine (cmp_isNaN_int64.calls a1 false _ A4.out).mono ?_); rintro e w' ⟨rfl, ⟨nd, rfl⟩⟩; refine ⟨_, rfl, ?_⟩))
 go_ret
 exact qN
end Go.Proofs.YtbngfhlciebeeaaDoor.L
end
