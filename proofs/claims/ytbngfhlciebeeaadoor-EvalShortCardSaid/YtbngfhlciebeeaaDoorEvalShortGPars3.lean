/- Printed and hand-written steps towards the row (EvalShort), those that it reaches. -/
import Derived.Test.YtbngfhlciebeeaaDoorEvalShortG11
import Derived.Test.YtbngfhlciebeeaaDoorEvalShortG12
namespace Go.Proofs.YtbngfhlciebeeaaDoor.L
set_option linter.unusedVariables false
set_option linter.unusedSimpArgs false
open Go.RowKit Go.Proofs.YtbngfhlciebeeaaDoorW.PrintWords Go.Proofs.YtbngfhlciebeeaaDoorW.PrintLast Go.Proofs.YtbngfhlciebeeaaDoorW.PrintMore
def nodeV (v : S103) : S156 := ⟨0, v, ⟨#[]⟩, 0, 0⟩
def nodeO (op a b : Int) : S156 := ⟨op, ⟨0, 0, ⟨#[]⟩⟩, ⟨#[]⟩, a, b⟩
def truthV (b : Bool) : S103 := if b = true then ⟨2, 1, ⟨#[]⟩⟩ else ⟨2, 0, ⟨#[]⟩⟩
def levAt (m : Nat) : Lev := levelsL.getD m ⟨[], [], false⟩
def pa : Nat → List S32 → Nat → Nat → List S156 → Option (Option (Nat × List S156))
  | 0, _, _, _, _ => none
  | k + 1, l, m, i, e =>
    if m = 6 then
      (if (nextT l i).f0 = 3 then some (some (i + 1, e ++ [nodeV ⟨1, (nextT l i).f2, ⟨#[]⟩⟩]))
      else if (nextT l i).f0 = 4 then some (some (i + 1, e ++ [nodeV ⟨3, 0, (nextT l i).f1⟩]))
      else if isT (nextT l i) [⟨#[116, 114, 117, 101]⟩, ⟨#[102, 97, 108, 115, 101]⟩] = true then some (some (i + 1, e ++ [nodeV (truthV ((nextT l i).f1.toList == ([116, 114, 117, 101] : List UInt8)))]))
      else if isT (nextT l i) [⟨#[105, 110]⟩] = true then
        (if isT (nextT l (i + 1)) [⟨#[40]⟩] = true then (if nameT (nextT l (i + 1 + 1)) = true then (if isT (nextT l (i + 1 + 1 + 1)) [⟨#[41]⟩] = true then some (some (i + 1 + 1 + 1 + 1, e ++ [nodeN 17 (nextT l (i + 1 + 1)).f1])) else some none) else some none) else some none)
      else if isT (nextT l i) [⟨#[40]⟩] = true then
        (pa k l 0 (i + 1) e).bind fun r => (match r with | none => some none | some (i2, e2) => if isT (nextT l i2) [⟨#[41]⟩] = true then some (some (i2 + 1, e2)) else some none)
      else if nameT (nextT l i) = true then some (some (i + 1, e ++ [nodeN 16 (nextT l i).f1])) else some none)
    else if m = 5 then
      (if isT (nextT l i) [⟨#[110, 111, 116]⟩] = true then (pa k l 5 (i + 1) e).bind fun r => (match r with | none => some none | some (i2, e2) => some (some (i2, e2 ++ [nodeO 1 ((e2.length : Int) - 1) 0])))
      else if isT (nextT l i) [⟨#[45]⟩] = true then (pa k l 5 (i + 1) e).bind fun r => (match r with | none => some none | some (i2, e2) => some (some (i2, e2 ++ [nodeO 2 ((e2.length : Int) - 1) 0])))
      else pa k l 6 i e)
    else if m < 5 then
      (pa k l (m + 1) i e).bind fun r => (match r with | none => some none | some (i2, e2) => pa k l (m + 7) i2 e2)
    else
      (match opIn (levAt (m - 7)).signs (levAt (m - 7)).ops (nextT l i) with | none => some (some (i, e)) | some o => (pa k l (m - 7 + 1) (i + 1) e).bind fun r => (match r with | none => some none | some (i2, e2) => if (levAt (m - 7)).once = true then some (some (i2, e2 ++ [nodeO o ((e.length : Int) - 1) ((e2.length : Int) - 1)])) else pa k l m i2 (e2 ++ [nodeO o ((e.length : Int) - 1) ((e2.length : Int) - 1)])))
theorem opIn_lt {ss : List ByteArray} {os : List Int} {l : List S32} {i : Nat} {o : Int} (h : opIn ss os (nextT l i) = some o) : i < l.length := by
  by_cases hi : i < l.length
  · exact hi
  · rw [nextT_end hi] at h
    have : ∀ (ss : List ByteArray) (os : List Int), opIn ss os z32 = none := by
      intro ss
      induction ss with
      | nil => intro os; rfl
      | cons s ss ih =>
        intro os
        cases os with
        | nil => rfl
        | cons o os => simp only [opIn]; rw [isT_end, if_neg (by decide)]; exact ih os
    rw [this] at h; cases h
theorem kind_lt {l : List S32} {i : Nat} (h : (nextT l i).f0 ≠ 0) : i < l.length := by
  by_cases hi : i < l.length
  · exact hi
  · rw [nextT_end hi] at h; exact absurd rfl h
theorem pa_inv : ∀ (k : Nat) (l : List S32) (m i : Nat) (e : List S156) (i2 : Nat) (e2 : List S156), pa k l m i e = some (some (i2, e2)) → i ≤ l.length → i ≤ i2 ∧ i2 ≤ l.length ∧ e2.length + i ≤ i2 + e.length := by
  intro k
  induction k with
  | zero => intro l m i e i2 e2 h; simp [pa] at h
  | succ k ih =>
    intro l m i e i2 e2 h hi
    simp only [pa] at h
    by_cases h6 : m = 6
    · rw [if_pos h6] at h
      by_cases a1 : (nextT l i).f0 = 3
      · rw [if_pos a1] at h
        have := kind_lt (l := l) (i := i) (by rw [a1]; decide)
        simp only [Option.some.injEq, Prod.mk.injEq] at h
        obtain ⟨rfl, rfl⟩ := h
        simp only [List.length_append, List.length_singleton]; omega
      rw [if_neg a1] at h
      by_cases a2 : (nextT l i).f0 = 4
      · rw [if_pos a2] at h
        have := kind_lt (l := l) (i := i) (by rw [a2]; decide)
        simp only [Option.some.injEq, Prod.mk.injEq] at h
        obtain ⟨rfl, rfl⟩ := h
        simp only [List.length_append, List.length_singleton]; omega
      rw [if_neg a2] at h
      by_cases a3 : isT (nextT l i) [⟨#[116, 114, 117, 101]⟩, ⟨#[102, 97, 108, 115, 101]⟩] = true
      · rw [if_pos a3] at h
        have := isT_lt a3
        simp only [Option.some.injEq, Prod.mk.injEq] at h
        obtain ⟨rfl, rfl⟩ := h
        simp only [List.length_append, List.length_singleton]; omega
      rw [if_neg a3] at h
      by_cases a4 : isT (nextT l i) [⟨#[105, 110]⟩] = true
      · rw [if_pos a4] at h
        by_cases b1 : isT (nextT l (i + 1)) [⟨#[40]⟩] = true
        · rw [if_pos b1] at h
          by_cases b2 : nameT (nextT l (i + 1 + 1)) = true
          · rw [if_pos b2] at h
            by_cases b3 : isT (nextT l (i + 1 + 1 + 1)) [⟨#[41]⟩] = true
            · rw [if_pos b3] at h
              have := isT_lt b3
              simp only [Option.some.injEq, Prod.mk.injEq] at h
              obtain ⟨rfl, rfl⟩ := h
              simp only [List.length_append, List.length_singleton]; omega
            · rw [if_neg b3] at h; simp at h
          · rw [if_neg b2] at h; simp at h
        · rw [if_neg b1] at h; simp at h
      rw [if_neg a4] at h
      by_cases a5 : isT (nextT l i) [⟨#[40]⟩] = true
      · rw [if_pos a5] at h
        obtain ⟨r, hr, h⟩ := Option.bind_eq_some_iff.1 h
        cases r with
        | none => simp at h
        | some p =>
          obtain ⟨i3, e3⟩ := p
          simp only at h
          by_cases b1 : isT (nextT l i3) [⟨#[41]⟩] = true
          · rw [if_pos b1] at h
            have := isT_lt b1
            have := isT_lt a5
            have := ih l 0 (i + 1) e i3 e3 hr (by omega)
            simp only [Option.some.injEq, Prod.mk.injEq] at h
            obtain ⟨rfl, rfl⟩ := h
            omega
          · rw [if_neg b1] at h; simp at h
      rw [if_neg a5] at h
      by_cases a6 : nameT (nextT l i) = true
      · rw [if_pos a6] at h
        have := nameT_lt a6
        simp only [Option.some.injEq, Prod.mk.injEq] at h
        obtain ⟨rfl, rfl⟩ := h
        simp only [List.length_append, List.length_singleton]; omega
      · rw [if_neg a6] at h; simp at h
    rw [if_neg h6] at h
    by_cases h5 : m = 5
    · rw [if_pos h5] at h
      have hun : ∀ (op : Int), i < l.length → ((pa k l 5 (i + 1) e).bind fun r => (match r with | none => some none | some (i2, e2) => some (some (i2, e2 ++ [nodeO op ((e2.length : Int) - 1) 0])))) = some (some (i2, e2)) → i ≤ i2 ∧ i2 ≤ l.length ∧ e2.length + i ≤ i2 + e.length := by
        intro op hil h
        obtain ⟨r, hr, h⟩ := Option.bind_eq_some_iff.1 h
        cases r with
        | none => simp at h
        | some p =>
          obtain ⟨i3, e3⟩ := p
          have := ih l 5 (i + 1) e i3 e3 hr (by omega)
          simp only [Option.some.injEq, Prod.mk.injEq] at h
          obtain ⟨rfl, rfl⟩ := h
          simp only [List.length_append, List.length_singleton]; omega
      by_cases a1 : isT (nextT l i) [⟨#[110, 111, 116]⟩] = true
      · rw [if_pos a1] at h
        exact hun 1 (isT_lt a1) h
      rw [if_neg a1] at h
      by_cases a2 : isT (nextT l i) [⟨#[45]⟩] = true
      · rw [if_pos a2] at h
        exact hun 2 (isT_lt a2) h
      rw [if_neg a2] at h
      exact ih l 6 i e i2 e2 h hi
    rw [if_neg h5] at h
    by_cases hm : m < 5
    · rw [if_pos hm] at h
      obtain ⟨r, hr, h⟩ := Option.bind_eq_some_iff.1 h
      cases r with
      | none => simp at h
      | some p =>
        obtain ⟨i3, e3⟩ := p
        have h1 := ih l (m + 1) i e i3 e3 hr hi
        have h2 := ih l (m + 7) i3 e3 i2 e2 h h1.2.1
        omega
    rw [if_neg hm] at h
    cases ho : opIn (levAt (m - 7)).signs (levAt (m - 7)).ops (nextT l i) with
    | none =>
      rw [ho] at h
      simp only [Option.some.injEq, Prod.mk.injEq] at h
      obtain ⟨rfl, rfl⟩ := h
      omega
    | some o =>
      rw [ho] at h
      have hil := opIn_lt ho
      obtain ⟨r, hr, h⟩ := Option.bind_eq_some_iff.1 h
      cases r with
      | none => simp at h
      | some p =>
        obtain ⟨i3, e3⟩ := p
        have h1 := ih l (m - 7 + 1) (i + 1) e i3 e3 hr (by omega)
        simp only at h
        by_cases hon : (levAt (m - 7)).once = true
        · rw [if_pos hon] at h
          simp only [Option.some.injEq, Prod.mk.injEq] at h
          obtain ⟨rfl, rfl⟩ := h
          simp only [List.length_append, List.length_singleton]; omega
        · rw [if_neg hon] at h
          have h2 := ih l m i3 _ i2 e2 h h1.2.1
          simp only [List.length_append, List.length_singleton] at h2
          omega
def PaPost (w0 w : World) (g : Nat) (A : Option Addr) (c : Nat) (l : List S32) (r : Option (Nat × List S156)) (x : Ending) (w' : World) : Prop :=
  match r with
  | none => x = .returned (.bool false) ∧ Below w0.heap.size w0 w'
  | some (i, e) => x = .returned (.bool true) ∧ IsP w0 w' g A c l (i : Int) e ∧ KeepT w w'
theorem take_yes {w0 w : World} {g : Nat} {A : Option Addr} {c : Nat} {l : List S32} {i : Nat} {e : List S156} (h : IsP w0 w g A c l (i : Int) e) (s : ByteArray) (hb : isT (nextT l i) [s] = true) :
    Calls Tryd.prog 155 #[.pointer (some ⟨g, 0, none⟩), .string s] w fun x w' => x = .returned (.bool true) ∧ IsP w0 w' g A c l ((i + 1 : Nat) : Int) e ∧ KeepT w w' := take_calls h s true hb
theorem take_no {w0 w : World} {g : Nat} {A : Option Addr} {c : Nat} {l : List S32} {i : Nat} {e : List S156} (h : IsP w0 w g A c l (i : Int) e) (s : ByteArray) (hb : isT (nextT l i) [s] = false) :
    Calls Tryd.prog 155 #[.pointer (some ⟨g, 0, none⟩), .string s] w fun x w' => x = .returned (.bool false) ∧ IsP w0 w' g A c l (i : Int) e ∧ KeepT w w' := take_calls h s false hb
theorem IsP.cells {w0 W : World} {g : Nat} {A : Option Addr} {c : Nat} {l : List S32} {i : Int} {e : List S156} (h : IsP w0 W g A c l i e) : W.cell? ⟨g, 1, none⟩ = some (.int .i64 i) ∧ W.frozen? ⟨g, 1, none⟩ = false := by
  obtain ⟨_, q, _⟩ := h
  exact ⟨blk_cell q 1, blk_frozen q 1⟩
set_option maxHeartbeats 4000000 in
set_option maxRecDepth 100000 in
theorem atom_num {w0 w : World} {g : Nat} {A : Option Addr} {c : Nat} {l : List S32} {i : Nat} {e : List S156} (h : IsP w0 w g A c l (i : Int) e) (he : e.length ≤ 1000000) (ht : (nextT l i).f0 = 3) :
    Calls Tryd.prog 156 #[.pointer (some ⟨g, 0, none⟩)] w fun x w' => x = .returned (.bool true) ∧ IsP w0 w' g A c l ((i + 1 : Nat) : Int) (e ++ [nodeV ⟨1, (nextT l i).f2, ⟨#[]⟩⟩]) ∧ KeepT w w' := by
  have H := Aside0.mk h
  have hm : l.length ≤ 9223372036854775807 := by obtain ⟨_, _, _, _, h4, _⟩ := h; exact h4.2.1
  clear h
  have hi := kind_lt (l := l) (i := i) (by rw [ht]; decide)
  generalize et0 : nextT l i = t at ht ⊢
  have et := Aside0.mk et0
  clear et0
  have b1 : (t.f0 == 3) = true := beq_iff_eq.2 ht
  clear ht
  go_enter Tryd.func156, Tryd.ntmps156
  go_wp2_with (go_at_call 161; refine (next_calls H.out).mono ?_)
  rintro x w1 ⟨rfl, hb1⟩
  rw [et.out]
  have H1 := Aside0.mk (IsP.below H.out hb1)
  have K1 := Aside0.mk (KeepT.of_below hb1)
  clear hb1
  have T3 := Aside0.mk (blk_new w1 (.cells #[.int .i64 t.f0, .string t.f1, .int .i64 t.f2, .int .i64 t.f3] 32))
  have H3 := Aside0.mk (IsP.below H1.out (below_alloc (Below.refl w1.heap.size w1) (.cells #[.int .i64 t.f0, .string t.f1, .int .i64 t.f2, .int .i64 t.f3] 32)))
  have K3 := Aside0.mk (K1.out.trans (KeepT.of_below (below_alloc (Below.refl w1.heap.size w1) (.cells #[.int .i64 t.f0, .string t.f1, .int .i64 t.f2, .int .i64 t.f3] 32))))
  have ht3 := Aside0.mk (show g ≠ w1.heap.size by obtain ⟨_, q, _⟩ := H1.out; have := blk_lt q; omega)
  clear H1 K1
  have ht4 := Aside0.mk (Ne.symm ht3.out)
  have S4 := Aside0.mk (blk_far T3.out (p := ⟨g, 1, none⟩) ht4.out (.int .i64 ((i : Int) + 1)))
  have H4 := Aside0.mk (IsP.set_at H3.out ((i : Int) + 1))
  have K4 := Aside0.mk (K3.out.trans (IsP.keep_at H3.out ((i : Int) + 1)))
  obtain ⟨c1, f1⟩ := IsP.cells H3.out
  have d0 := blk_cell T3.out 0
  have d1 := blk_cell T3.out 1
  have d2 := blk_cell T3.out 2
  have d3 := blk_cell T3.out 3
  have e0 := blk_cell S4.out 0
  have e1 := blk_cell S4.out 1
  have e2 := blk_cell S4.out 2
  have e3 := blk_cell S4.out 3
  go_wp2_with (go_at_call 96; refine (val_Of.calls t.f2 1 t.f2 ⟨#[]⟩ _ rfl).mono ?_)
  rintro x w5 ⟨rfl, hb5⟩
  have H5 := Aside0.mk (IsP.below H4.out hb5)
  have K5 := Aside0.mk (K4.out.trans (KeepT.of_below hb5))
  clear hb5 c1 f1 d0 d1 d2 d3 e0 e1 e2 e3
  go_wp2_with (go_at_call 140; refine (add_calls H5.out (nodeV ⟨1, t.f2, ⟨#[]⟩⟩) he).mono ?_)
  rintro x w6 ⟨rfl, h6, k6⟩
  have H6 := Aside0.mk h6
  have K6 := Aside0.mk (K5.out.trans k6)
  clear h6 k6
  go_wp2
  go_ret
  rw [show ((i + 1 : Nat) : Int) = (i : Int) + 1 by omega]
  exact ⟨rfl, H6.out, K6.out⟩
set_option maxHeartbeats 4000000 in
set_option maxRecDepth 100000 in
theorem atom_quote {w0 w : World} {g : Nat} {A : Option Addr} {c : Nat} {l : List S32} {i : Nat} {e : List S156} (h : IsP w0 w g A c l (i : Int) e) (he : e.length ≤ 1000000) (ht : (nextT l i).f0 = 4) :
    Calls Tryd.prog 156 #[.pointer (some ⟨g, 0, none⟩)] w fun x w' => x = .returned (.bool true) ∧ IsP w0 w' g A c l ((i + 1 : Nat) : Int) (e ++ [nodeV ⟨3, 0, (nextT l i).f1⟩]) ∧ KeepT w w' := by
  have H := Aside0.mk h
  have hm : l.length ≤ 9223372036854775807 := by obtain ⟨_, _, _, _, h4, _⟩ := h; exact h4.2.1
  clear h
  have hi := kind_lt (l := l) (i := i) (by rw [ht]; decide)
  generalize et0 : nextT l i = t at ht ⊢
  have et := Aside0.mk et0
  clear et0
  have b0 : (t.f0 == 3) = false := by rw [ht]; rfl
  have b1 : (t.f0 == 4) = true := beq_iff_eq.2 ht
  clear ht
  go_enter Tryd.func156, Tryd.ntmps156
  go_wp2_with (go_at_call 161; refine (next_calls H.out).mono ?_)
  rintro x w1 ⟨rfl, hb1⟩
  rw [et.out]
  have H1 := Aside0.mk (IsP.below H.out hb1)
  have K1 := Aside0.mk (KeepT.of_below hb1)
  clear hb1
  have T3 := Aside0.mk (blk_new w1 (.cells #[.int .i64 t.f0, .string t.f1, .int .i64 t.f2, .int .i64 t.f3] 32))
  have H3 := Aside0.mk (IsP.below H1.out (below_alloc (Below.refl w1.heap.size w1) (.cells #[.int .i64 t.f0, .string t.f1, .int .i64 t.f2, .int .i64 t.f3] 32)))
  have K3 := Aside0.mk (K1.out.trans (KeepT.of_below (below_alloc (Below.refl w1.heap.size w1) (.cells #[.int .i64 t.f0, .string t.f1, .int .i64 t.f2, .int .i64 t.f3] 32))))
  have ht3 := Aside0.mk (show g ≠ w1.heap.size by obtain ⟨_, q, _⟩ := H1.out; have := blk_lt q; omega)
  clear H1 K1
  have ht4 := Aside0.mk (Ne.symm ht3.out)
  have S4 := Aside0.mk (blk_far T3.out (p := ⟨g, 1, none⟩) ht4.out (.int .i64 ((i : Int) + 1)))
  have H4 := Aside0.mk (IsP.set_at H3.out ((i : Int) + 1))
  have K4 := Aside0.mk (K3.out.trans (IsP.keep_at H3.out ((i : Int) + 1)))
  obtain ⟨c1, f1⟩ := IsP.cells H3.out
  have d0 := blk_cell T3.out 0
  have d1 := blk_cell T3.out 1
  have d2 := blk_cell T3.out 2
  have d3 := blk_cell T3.out 3
  have e0 := blk_cell S4.out 0
  have e1 := blk_cell S4.out 1
  have e2 := blk_cell S4.out 2
  have e3 := blk_cell S4.out 3
  go_wp2_with (go_at_call 160; refine (val_Word.calls t.f1 3 0 t.f1 _ rfl).mono ?_)
  rintro x w5 ⟨rfl, hb5⟩
  have H5 := Aside0.mk (IsP.below H4.out hb5)
  have K5 := Aside0.mk (K4.out.trans (KeepT.of_below hb5))
  clear hb5 c1 f1 d0 d1 d2 d3 e0 e1 e2 e3
  go_wp2_with (go_at_call 140; refine (add_calls H5.out (nodeV ⟨3, 0, t.f1⟩) he).mono ?_)
  rintro x w6 ⟨rfl, h6, k6⟩
  have H6 := Aside0.mk h6
  have K6 := Aside0.mk (K5.out.trans k6)
  clear h6 k6
  go_wp2
  go_ret
  rw [show ((i + 1 : Nat) : Int) = (i : Int) + 1 by omega]
  exact ⟨rfl, H6.out, K6.out⟩
theorem truth_f (b : Bool) : val_Truth.f b = some ((truthV b).f0, (truthV b).f1, (truthV b).f2) := by cases b <;> rfl
set_option maxHeartbeats 4000000 in
set_option maxRecDepth 100000 in
theorem atom_truth {w0 w : World} {g : Nat} {A : Option Addr} {c : Nat} {l : List S32} {i : Nat} {e : List S156} (h : IsP w0 w g A c l (i : Int) e) (he : e.length ≤ 1000000) (h3 : (nextT l i).f0 ≠ 3) (h4 : (nextT l i).f0 ≠ 4) (htf : isT (nextT l i) [⟨#[116, 114, 117, 101]⟩, ⟨#[102, 97, 108, 115, 101]⟩] = true) :
    Calls Tryd.prog 156 #[.pointer (some ⟨g, 0, none⟩)] w fun x w' => x = .returned (.bool true) ∧ IsP w0 w' g A c l ((i + 1 : Nat) : Int) (e ++ [nodeV (truthV ((nextT l i).f1.toList == ([116, 114, 117, 101] : List UInt8)))]) ∧ KeepT w w' := by
  have H := Aside0.mk h
  have hm : l.length ≤ 9223372036854775807 := by obtain ⟨_, _, _, _, h4, _⟩ := h; exact h4.2.1
  clear h
  have hi := isT_lt htf
  generalize et0 : nextT l i = t at h3 h4 htf ⊢
  have et := Aside0.mk et0
  clear et0
  have b0 : (t.f0 == 3) = false := beq_eq_false_iff_ne.2 h3
  have b1 : (t.f0 == 4) = false := beq_eq_false_iff_ne.2 h4
  obtain ⟨k, hk0⟩ := is_some t [⟨#[116, 114, 117, 101]⟩, ⟨#[102, 97, 108, 115, 101]⟩] (by simp)
  rw [htf] at hk0
  have hk := Aside0.mk hk0
  clear hk0 htf h3 h4
  generalize eb0 : (t.f1.toList == ([116, 114, 117, 101] : List UInt8)) = bb
  have eb := Aside0.mk eb0
  have b2 := eb0
  clear eb0
  go_enter Tryd.func156, Tryd.ntmps156
  go_wp2_with (go_at_call 161; refine (next_calls H.out).mono ?_)
  rintro x w1 ⟨rfl, hb1⟩
  rw [et.out]
  have H1 := Aside0.mk (IsP.below H.out hb1)
  have K1 := Aside0.mk (KeepT.of_below hb1)
  clear hb1
  have T3 := Aside0.mk (blk_new w1 (.cells #[.int .i64 t.f0, .string t.f1, .int .i64 t.f2, .int .i64 t.f3] 32))
  have H3 := Aside0.mk (IsP.below H1.out (below_alloc (Below.refl w1.heap.size w1) (.cells #[.int .i64 t.f0, .string t.f1, .int .i64 t.f2, .int .i64 t.f3] 32)))
  have K3 := Aside0.mk (K1.out.trans (KeepT.of_below (below_alloc (Below.refl w1.heap.size w1) (.cells #[.int .i64 t.f0, .string t.f1, .int .i64 t.f2, .int .i64 t.f3] 32))))
  have ht3 := Aside0.mk (show g ≠ w1.heap.size by obtain ⟨_, q, _⟩ := H1.out; have := blk_lt q; omega)
  clear H1 K1
  have CC := Aside0.mk (C_str2 (new_at (.cells #[.string ⟨#[116, 114, 117, 101]⟩, .string ⟨#[102, 97, 108, 115, 101]⟩] 9) (sz_al (.cells #[.int .i64 t.f0, .string t.f1, .int .i64 t.f2, .int .i64 t.f3] 32) (rfl : w1.heap.size = w1.heap.size))))
  have HA := Aside0.mk (IsP.below H3.out (below_alloc (Below.refl _ _) (.cells #[.string ⟨#[116, 114, 117, 101]⟩, .string ⟨#[102, 97, 108, 115, 101]⟩] 9)))
  have TA := Aside0.mk (blk_alloc T3.out (.cells #[.string ⟨#[116, 114, 117, 101]⟩, .string ⟨#[102, 97, 108, 115, 101]⟩] 9))
  have KA := Aside0.mk (K3.out.trans (KeepT.of_below (below_alloc (Below.refl (w1.alloc (.cells #[.int .i64 t.f0, .string t.f1, .int .i64 t.f2, .int .i64 t.f3] 32)).heap.size (w1.alloc (.cells #[.int .i64 t.f0, .string t.f1, .int .i64 t.f2, .int .i64 t.f3] 32))) (.cells #[.string ⟨#[116, 114, 117, 101]⟩, .string ⟨#[102, 97, 108, 115, 101]⟩] 9))))
  go_wp2_with (go_at_call 23; refine (tok_Token_Is.calls k t.f0 t.f1 t.f2 t.f3 _ 2 [⟨#[116, 114, 117, 101]⟩, ⟨#[102, 97, 108, 115, 101]⟩] true _ CC.out (by simp) hk.out).mono ?_)
  rintro x w4 ⟨rfl, hb4⟩
  have H4 := Aside0.mk (IsP.below HA.out hb4)
  have T4 := Aside0.mk (blk_below TA.out hb4)
  have K4 := Aside0.mk (KA.out.trans (KeepT.of_below hb4))
  clear hb4 HA TA KA CC H3 T3 K3
  have ht4 := Aside0.mk (Ne.symm ht3.out)
  have S4 := Aside0.mk (blk_far T4.out (p := ⟨g, 1, none⟩) ht4.out (.int .i64 ((i : Int) + 1)))
  have H4s := Aside0.mk (IsP.set_at H4.out ((i : Int) + 1))
  have K4s := Aside0.mk (K4.out.trans (IsP.keep_at H4.out ((i : Int) + 1)))
  obtain ⟨c1, f1⟩ := IsP.cells H4.out
  have d0 := blk_cell T4.out 0
  have d1 := blk_cell T4.out 1
  have d2 := blk_cell T4.out 2
  have d3 := blk_cell T4.out 3
  have e0 := blk_cell S4.out 0
  have e1 := blk_cell S4.out 1
  have e2 := blk_cell S4.out 2
  have e3 := blk_cell S4.out 3
  go_wp2_with (go_at_call 65; refine (val_Truth.calls bb (truthV bb).f0 (truthV bb).f1 (truthV bb).f2 _ (truth_f bb)).mono ?_)
  rintro x w5 ⟨rfl, hb5⟩
  have H5 := Aside0.mk (IsP.below H4s.out hb5)
  have K5 := Aside0.mk (K4s.out.trans (KeepT.of_below hb5))
  clear hb5 c1 f1 d0 d1 d2 d3 e0 e1 e2 e3
  go_wp2_with (go_at_call 140; refine (add_calls H5.out (nodeV (truthV bb)) he).mono ?_)
  rintro x w6 ⟨rfl, h6, k6⟩
  have H6 := Aside0.mk h6
  have K6 := Aside0.mk (K5.out.trans k6)
  clear h6 k6
  go_wp2
  go_ret
  rw [show ((i + 1 : Nat) : Int) = (i : Int) + 1 by omega]
  exact ⟨rfl, H6.out, K6.out⟩
set_option maxHeartbeats 4000000 in
set_option maxRecDepth 100000 in
theorem atom_in1 {w0 w : World} {g : Nat} {A : Option Addr} {c : Nat} {l : List S32} {i : Nat} {e : List S156} (h : IsP w0 w g A c l (i : Int) e) (he : e.length ≤ 1000000) (h3 : (nextT l i).f0 ≠ 3) (h4 : (nextT l i).f0 ≠ 4) (htf : isT (nextT l i) [⟨#[116, 114, 117, 101]⟩, ⟨#[102, 97, 108, 115, 101]⟩] = false) (hin : isT (nextT l i) [⟨#[105, 110]⟩] = true) (ha : isT (nextT l (i + 1)) [⟨#[40]⟩] = false) :
    Calls Tryd.prog 156 #[.pointer (some ⟨g, 0, none⟩)] w fun x w' => x = .returned (.bool false) ∧ Below w0.heap.size w0 w' := by
  have H := Aside0.mk h
  have hm : l.length ≤ 9223372036854775807 := by obtain ⟨_, _, _, _, h4, _⟩ := h; exact h4.2.1
  clear h
  generalize et0 : nextT l i = t at h3 h4 htf hin ⊢
  have et := Aside0.mk et0
  clear et0
  have b0 : (t.f0 == 3) = false := beq_eq_false_iff_ne.2 h3
  have b1 : (t.f0 == 4) = false := beq_eq_false_iff_ne.2 h4
  obtain ⟨k, hk0⟩ := is_some t [⟨#[116, 114, 117, 101]⟩, ⟨#[102, 97, 108, 115, 101]⟩] (by simp)
  rw [htf] at hk0
  have hk := Aside0.mk hk0
  clear hk0 htf h3 h4
  have HIN := Aside0.mk hin
  clear hin
  have HAX := Aside0.mk ha
  clear ha
  go_enter Tryd.func156, Tryd.ntmps156
  go_wp2_with (go_at_call 161; refine (next_calls H.out).mono ?_)
  rintro x w1 ⟨rfl, hb1⟩
  rw [et.out]
  have H1 := Aside0.mk (IsP.below H.out hb1)
  have K1 := Aside0.mk (KeepT.of_below hb1)
  clear hb1
  have T3 := Aside0.mk (blk_new w1 (.cells #[.int .i64 t.f0, .string t.f1, .int .i64 t.f2, .int .i64 t.f3] 32))
  have H3 := Aside0.mk (IsP.below H1.out (below_alloc (Below.refl w1.heap.size w1) (.cells #[.int .i64 t.f0, .string t.f1, .int .i64 t.f2, .int .i64 t.f3] 32)))
  have K3 := Aside0.mk (K1.out.trans (KeepT.of_below (below_alloc (Below.refl w1.heap.size w1) (.cells #[.int .i64 t.f0, .string t.f1, .int .i64 t.f2, .int .i64 t.f3] 32))))
  have ht3 := Aside0.mk (show g ≠ w1.heap.size by obtain ⟨_, q, _⟩ := H1.out; have := blk_lt q; omega)
  clear H1 K1
  have CC := Aside0.mk (C_str2 (new_at (.cells #[.string ⟨#[116, 114, 117, 101]⟩, .string ⟨#[102, 97, 108, 115, 101]⟩] 9) (sz_al (.cells #[.int .i64 t.f0, .string t.f1, .int .i64 t.f2, .int .i64 t.f3] 32) (rfl : w1.heap.size = w1.heap.size))))
  have HA := Aside0.mk (IsP.below H3.out (below_alloc (Below.refl _ _) (.cells #[.string ⟨#[116, 114, 117, 101]⟩, .string ⟨#[102, 97, 108, 115, 101]⟩] 9)))
  have TA := Aside0.mk (blk_alloc T3.out (.cells #[.string ⟨#[116, 114, 117, 101]⟩, .string ⟨#[102, 97, 108, 115, 101]⟩] 9))
  have KA := Aside0.mk (K3.out.trans (KeepT.of_below (below_alloc (Below.refl (w1.alloc (.cells #[.int .i64 t.f0, .string t.f1, .int .i64 t.f2, .int .i64 t.f3] 32)).heap.size (w1.alloc (.cells #[.int .i64 t.f0, .string t.f1, .int .i64 t.f2, .int .i64 t.f3] 32))) (.cells #[.string ⟨#[116, 114, 117, 101]⟩, .string ⟨#[102, 97, 108, 115, 101]⟩] 9))))
  go_wp2_with (go_at_call 23; refine (tok_Token_Is.calls k t.f0 t.f1 t.f2 t.f3 _ 2 [⟨#[116, 114, 117, 101]⟩, ⟨#[102, 97, 108, 115, 101]⟩] false _ CC.out (by simp) hk.out).mono ?_)
  rintro x w4 ⟨rfl, hb4⟩
  have H4 := Aside0.mk (IsP.below HA.out hb4)
  have T4 := Aside0.mk (blk_below TA.out hb4)
  have K4 := Aside0.mk (KA.out.trans (KeepT.of_below hb4))
  clear hb4 HA TA KA CC H3 T3 K3
  go_wp2_with (go_at_call 155; refine (take_yes H4.out ⟨#[105, 110]⟩ (by rw [et.out]; exact HIN.out)).mono ?_)
  rintro x w5 ⟨rfl, h_, k_⟩
  have H5 := Aside0.mk h_
  have K5 := Aside0.mk (K4.out.trans k_)
  clear h_ k_
  go_wp2_with (go_at_call 155; refine (take_no H5.out ⟨#[40]⟩ HAX.out).mono ?_)
  rintro x w6 ⟨rfl, h_, k_⟩
  have H6 := Aside0.mk h_
  have K6 := Aside0.mk (K5.out.trans k_)
  clear h_ k_
  go_wp2
  go_ret
  exact ⟨rfl, IsP.bel H6.out⟩
set_option maxHeartbeats 4000000 in
set_option maxRecDepth 100000 in
theorem atom_in2 {w0 w : World} {g : Nat} {A : Option Addr} {c : Nat} {l : List S32} {i : Nat} {e : List S156} (h : IsP w0 w g A c l (i : Int) e) (he : e.length ≤ 1000000) (h3 : (nextT l i).f0 ≠ 3) (h4 : (nextT l i).f0 ≠ 4) (htf : isT (nextT l i) [⟨#[116, 114, 117, 101]⟩, ⟨#[102, 97, 108, 115, 101]⟩] = false) (hin : isT (nextT l i) [⟨#[105, 110]⟩] = true) (ha : isT (nextT l (i + 1)) [⟨#[40]⟩] = true) (hb : nameT (nextT l (i + 1 + 1)) = false) :
    Calls Tryd.prog 156 #[.pointer (some ⟨g, 0, none⟩)] w fun x w' => x = .returned (.bool false) ∧ Below w0.heap.size w0 w' := by
  have H := Aside0.mk h
  have hm : l.length ≤ 9223372036854775807 := by obtain ⟨_, _, _, _, h4, _⟩ := h; exact h4.2.1
  clear h
  generalize et0 : nextT l i = t at h3 h4 htf hin ⊢
  have et := Aside0.mk et0
  clear et0
  have b0 : (t.f0 == 3) = false := beq_eq_false_iff_ne.2 h3
  have b1 : (t.f0 == 4) = false := beq_eq_false_iff_ne.2 h4
  obtain ⟨k, hk0⟩ := is_some t [⟨#[116, 114, 117, 101]⟩, ⟨#[102, 97, 108, 115, 101]⟩] (by simp)
  rw [htf] at hk0
  have hk := Aside0.mk hk0
  clear hk0 htf h3 h4
  have HIN := Aside0.mk hin
  clear hin
  have HAX := Aside0.mk ha
  clear ha
  have HBX := Aside0.mk hb
  clear hb
  go_enter Tryd.func156, Tryd.ntmps156
  go_wp2_with (go_at_call 161; refine (next_calls H.out).mono ?_)
  rintro x w1 ⟨rfl, hb1⟩
  rw [et.out]
  have H1 := Aside0.mk (IsP.below H.out hb1)
  have K1 := Aside0.mk (KeepT.of_below hb1)
  clear hb1
  have T3 := Aside0.mk (blk_new w1 (.cells #[.int .i64 t.f0, .string t.f1, .int .i64 t.f2, .int .i64 t.f3] 32))
  have H3 := Aside0.mk (IsP.below H1.out (below_alloc (Below.refl w1.heap.size w1) (.cells #[.int .i64 t.f0, .string t.f1, .int .i64 t.f2, .int .i64 t.f3] 32)))
  have K3 := Aside0.mk (K1.out.trans (KeepT.of_below (below_alloc (Below.refl w1.heap.size w1) (.cells #[.int .i64 t.f0, .string t.f1, .int .i64 t.f2, .int .i64 t.f3] 32))))
  have ht3 := Aside0.mk (show g ≠ w1.heap.size by obtain ⟨_, q, _⟩ := H1.out; have := blk_lt q; omega)
  clear H1 K1
  have CC := Aside0.mk (C_str2 (new_at (.cells #[.string ⟨#[116, 114, 117, 101]⟩, .string ⟨#[102, 97, 108, 115, 101]⟩] 9) (sz_al (.cells #[.int .i64 t.f0, .string t.f1, .int .i64 t.f2, .int .i64 t.f3] 32) (rfl : w1.heap.size = w1.heap.size))))
  have HA := Aside0.mk (IsP.below H3.out (below_alloc (Below.refl _ _) (.cells #[.string ⟨#[116, 114, 117, 101]⟩, .string ⟨#[102, 97, 108, 115, 101]⟩] 9)))
  have TA := Aside0.mk (blk_alloc T3.out (.cells #[.string ⟨#[116, 114, 117, 101]⟩, .string ⟨#[102, 97, 108, 115, 101]⟩] 9))
  have KA := Aside0.mk (K3.out.trans (KeepT.of_below (below_alloc (Below.refl (w1.alloc (.cells #[.int .i64 t.f0, .string t.f1, .int .i64 t.f2, .int .i64 t.f3] 32)).heap.size (w1.alloc (.cells #[.int .i64 t.f0, .string t.f1, .int .i64 t.f2, .int .i64 t.f3] 32))) (.cells #[.string ⟨#[116, 114, 117, 101]⟩, .string ⟨#[102, 97, 108, 115, 101]⟩] 9))))
  go_wp2_with (go_at_call 23; refine (tok_Token_Is.calls k t.f0 t.f1 t.f2 t.f3 _ 2 [⟨#[116, 114, 117, 101]⟩, ⟨#[102, 97, 108, 115, 101]⟩] false _ CC.out (by simp) hk.out).mono ?_)
  rintro x w4 ⟨rfl, hb4⟩
  have H4 := Aside0.mk (IsP.below HA.out hb4)
  have T4 := Aside0.mk (blk_below TA.out hb4)
  have K4 := Aside0.mk (KA.out.trans (KeepT.of_below hb4))
  clear hb4 HA TA KA CC H3 T3 K3
  go_wp2_with (go_at_call 155; refine (take_yes H4.out ⟨#[105, 110]⟩ (by rw [et.out]; exact HIN.out)).mono ?_)
  rintro x w5 ⟨rfl, h_, k_⟩
  have H5 := Aside0.mk h_
  have K5 := Aside0.mk (K4.out.trans k_)
  clear h_ k_
  go_wp2_with (go_at_call 155; refine (take_yes H5.out ⟨#[40]⟩ HAX.out).mono ?_)
  rintro x w6 ⟨rfl, h_, k_⟩
  have H6 := Aside0.mk h_
  have K6 := Aside0.mk (K5.out.trans k_)
  clear h_ k_
  go_wp2_with (go_at_call 162; refine (name_no H6.out 17 HBX.out).mono ?_)
  rintro x w7 ⟨rfl, h_⟩
  have B7 := Aside0.mk h_
  clear h_
  go_wp2
  go_ret
  exact ⟨rfl, B7.out⟩
set_option maxHeartbeats 4000000 in
set_option maxRecDepth 100000 in
theorem atom_in3 {w0 w : World} {g : Nat} {A : Option Addr} {c : Nat} {l : List S32} {i : Nat} {e : List S156} (h : IsP w0 w g A c l (i : Int) e) (he : e.length ≤ 1000000) (h3 : (nextT l i).f0 ≠ 3) (h4 : (nextT l i).f0 ≠ 4) (htf : isT (nextT l i) [⟨#[116, 114, 117, 101]⟩, ⟨#[102, 97, 108, 115, 101]⟩] = false) (hin : isT (nextT l i) [⟨#[105, 110]⟩] = true) (ha : isT (nextT l (i + 1)) [⟨#[40]⟩] = true) (hb : nameT (nextT l (i + 1 + 1)) = true) (hc : isT (nextT l (i + 1 + 1 + 1)) [⟨#[41]⟩] = false) :
    Calls Tryd.prog 156 #[.pointer (some ⟨g, 0, none⟩)] w fun x w' => x = .returned (.bool false) ∧ Below w0.heap.size w0 w' := by
  have H := Aside0.mk h
  have hm : l.length ≤ 9223372036854775807 := by obtain ⟨_, _, _, _, h4, _⟩ := h; exact h4.2.1
  clear h
  generalize et0 : nextT l i = t at h3 h4 htf hin ⊢
  have et := Aside0.mk et0
  clear et0
  have b0 : (t.f0 == 3) = false := beq_eq_false_iff_ne.2 h3
  have b1 : (t.f0 == 4) = false := beq_eq_false_iff_ne.2 h4
  obtain ⟨k, hk0⟩ := is_some t [⟨#[116, 114, 117, 101]⟩, ⟨#[102, 97, 108, 115, 101]⟩] (by simp)
  rw [htf] at hk0
  have hk := Aside0.mk hk0
  clear hk0 htf h3 h4
  have HIN := Aside0.mk hin
  clear hin
  have HAX := Aside0.mk ha
  clear ha
  have HBX := Aside0.mk hb
  clear hb
  have HCX := Aside0.mk hc
  clear hc
  go_enter Tryd.func156, Tryd.ntmps156
  go_wp2_with (go_at_call 161; refine (next_calls H.out).mono ?_)
  rintro x w1 ⟨rfl, hb1⟩
  rw [et.out]
  have H1 := Aside0.mk (IsP.below H.out hb1)
  have K1 := Aside0.mk (KeepT.of_below hb1)
  clear hb1
  have T3 := Aside0.mk (blk_new w1 (.cells #[.int .i64 t.f0, .string t.f1, .int .i64 t.f2, .int .i64 t.f3] 32))
  have H3 := Aside0.mk (IsP.below H1.out (below_alloc (Below.refl w1.heap.size w1) (.cells #[.int .i64 t.f0, .string t.f1, .int .i64 t.f2, .int .i64 t.f3] 32)))
  have K3 := Aside0.mk (K1.out.trans (KeepT.of_below (below_alloc (Below.refl w1.heap.size w1) (.cells #[.int .i64 t.f0, .string t.f1, .int .i64 t.f2, .int .i64 t.f3] 32))))
  have ht3 := Aside0.mk (show g ≠ w1.heap.size by obtain ⟨_, q, _⟩ := H1.out; have := blk_lt q; omega)
  clear H1 K1
  have CC := Aside0.mk (C_str2 (new_at (.cells #[.string ⟨#[116, 114, 117, 101]⟩, .string ⟨#[102, 97, 108, 115, 101]⟩] 9) (sz_al (.cells #[.int .i64 t.f0, .string t.f1, .int .i64 t.f2, .int .i64 t.f3] 32) (rfl : w1.heap.size = w1.heap.size))))
  have HA := Aside0.mk (IsP.below H3.out (below_alloc (Below.refl _ _) (.cells #[.string ⟨#[116, 114, 117, 101]⟩, .string ⟨#[102, 97, 108, 115, 101]⟩] 9)))
  have TA := Aside0.mk (blk_alloc T3.out (.cells #[.string ⟨#[116, 114, 117, 101]⟩, .string ⟨#[102, 97, 108, 115, 101]⟩] 9))
  have KA := Aside0.mk (K3.out.trans (KeepT.of_below (below_alloc (Below.refl (w1.alloc (.cells #[.int .i64 t.f0, .string t.f1, .int .i64 t.f2, .int .i64 t.f3] 32)).heap.size (w1.alloc (.cells #[.int .i64 t.f0, .string t.f1, .int .i64 t.f2, .int .i64 t.f3] 32))) (.cells #[.string ⟨#[116, 114, 117, 101]⟩, .string ⟨#[102, 97, 108, 115, 101]⟩] 9))))
  go_wp2_with (go_at_call 23; refine (tok_Token_Is.calls k t.f0 t.f1 t.f2 t.f3 _ 2 [⟨#[116, 114, 117, 101]⟩, ⟨#[102, 97, 108, 115, 101]⟩] false _ CC.out (by simp) hk.out).mono ?_)
  rintro x w4 ⟨rfl, hb4⟩
  have H4 := Aside0.mk (IsP.below HA.out hb4)
  have T4 := Aside0.mk (blk_below TA.out hb4)
  have K4 := Aside0.mk (KA.out.trans (KeepT.of_below hb4))
  clear hb4 HA TA KA CC H3 T3 K3
  go_wp2_with (go_at_call 155; refine (take_yes H4.out ⟨#[105, 110]⟩ (by rw [et.out]; exact HIN.out)).mono ?_)
  rintro x w5 ⟨rfl, h_, k_⟩
  have H5 := Aside0.mk h_
  have K5 := Aside0.mk (K4.out.trans k_)
  clear h_ k_
  go_wp2_with (go_at_call 155; refine (take_yes H5.out ⟨#[40]⟩ HAX.out).mono ?_)
  rintro x w6 ⟨rfl, h_, k_⟩
  have H6 := Aside0.mk h_
  have K6 := Aside0.mk (K5.out.trans k_)
  clear h_ k_
  go_wp2_with (go_at_call 162; refine (name_yes H6.out 17 he HBX.out).mono ?_)
  rintro x w7 ⟨rfl, h_, k_⟩
  have H7 := Aside0.mk h_
  have K7 := Aside0.mk (K6.out.trans k_)
  clear h_ k_
  go_wp2_with (go_at_call 155; refine (take_no H7.out ⟨#[41]⟩ HCX.out).mono ?_)
  rintro x w8 ⟨rfl, h_, k_⟩
  have H8 := Aside0.mk h_
  have K8 := Aside0.mk (K7.out.trans k_)
  clear h_ k_
  go_wp2
  go_ret
  exact ⟨rfl, IsP.bel H8.out⟩
set_option maxHeartbeats 4000000 in
set_option maxRecDepth 100000 in
theorem atom_in4 {w0 w : World} {g : Nat} {A : Option Addr} {c : Nat} {l : List S32} {i : Nat} {e : List S156} (h : IsP w0 w g A c l (i : Int) e) (he : e.length ≤ 1000000) (h3 : (nextT l i).f0 ≠ 3) (h4 : (nextT l i).f0 ≠ 4) (htf : isT (nextT l i) [⟨#[116, 114, 117, 101]⟩, ⟨#[102, 97, 108, 115, 101]⟩] = false) (hin : isT (nextT l i) [⟨#[105, 110]⟩] = true) (ha : isT (nextT l (i + 1)) [⟨#[40]⟩] = true) (hb : nameT (nextT l (i + 1 + 1)) = true) (hc : isT (nextT l (i + 1 + 1 + 1)) [⟨#[41]⟩] = true) :
    Calls Tryd.prog 156 #[.pointer (some ⟨g, 0, none⟩)] w fun x w' => x = .returned (.bool true) ∧ IsP w0 w' g A c l ((i + 1 + 1 + 1 + 1 : Nat) : Int) (e ++ [nodeN 17 (nextT l (i + 1 + 1)).f1]) ∧ KeepT w w' := by
  have H := Aside0.mk h
  have hm : l.length ≤ 9223372036854775807 := by obtain ⟨_, _, _, _, h4, _⟩ := h; exact h4.2.1
  clear h
  generalize et0 : nextT l i = t at h3 h4 htf hin ⊢
  have et := Aside0.mk et0
  clear et0
  have b0 : (t.f0 == 3) = false := beq_eq_false_iff_ne.2 h3
  have b1 : (t.f0 == 4) = false := beq_eq_false_iff_ne.2 h4
  obtain ⟨k, hk0⟩ := is_some t [⟨#[116, 114, 117, 101]⟩, ⟨#[102, 97, 108, 115, 101]⟩] (by simp)
  rw [htf] at hk0
  have hk := Aside0.mk hk0
  clear hk0 htf h3 h4
  have HIN := Aside0.mk hin
  clear hin
  have HAX := Aside0.mk ha
  clear ha
  have HBX := Aside0.mk hb
  clear hb
  have HCX := Aside0.mk hc
  clear hc
  go_enter Tryd.func156, Tryd.ntmps156
  go_wp2_with (go_at_call 161; refine (next_calls H.out).mono ?_)
  rintro x w1 ⟨rfl, hb1⟩
  rw [et.out]
  have H1 := Aside0.mk (IsP.below H.out hb1)
  have K1 := Aside0.mk (KeepT.of_below hb1)
  clear hb1
  have T3 := Aside0.mk (blk_new w1 (.cells #[.int .i64 t.f0, .string t.f1, .int .i64 t.f2, .int .i64 t.f3] 32))
  have H3 := Aside0.mk (IsP.below H1.out (below_alloc (Below.refl w1.heap.size w1) (.cells #[.int .i64 t.f0, .string t.f1, .int .i64 t.f2, .int .i64 t.f3] 32)))
  have K3 := Aside0.mk (K1.out.trans (KeepT.of_below (below_alloc (Below.refl w1.heap.size w1) (.cells #[.int .i64 t.f0, .string t.f1, .int .i64 t.f2, .int .i64 t.f3] 32))))
  have ht3 := Aside0.mk (show g ≠ w1.heap.size by obtain ⟨_, q, _⟩ := H1.out; have := blk_lt q; omega)
  clear H1 K1
  have CC := Aside0.mk (C_str2 (new_at (.cells #[.string ⟨#[116, 114, 117, 101]⟩, .string ⟨#[102, 97, 108, 115, 101]⟩] 9) (sz_al (.cells #[.int .i64 t.f0, .string t.f1, .int .i64 t.f2, .int .i64 t.f3] 32) (rfl : w1.heap.size = w1.heap.size))))
  have HA := Aside0.mk (IsP.below H3.out (below_alloc (Below.refl _ _) (.cells #[.string ⟨#[116, 114, 117, 101]⟩, .string ⟨#[102, 97, 108, 115, 101]⟩] 9)))
  have TA := Aside0.mk (blk_alloc T3.out (.cells #[.string ⟨#[116, 114, 117, 101]⟩, .string ⟨#[102, 97, 108, 115, 101]⟩] 9))
  have KA := Aside0.mk (K3.out.trans (KeepT.of_below (below_alloc (Below.refl (w1.alloc (.cells #[.int .i64 t.f0, .string t.f1, .int .i64 t.f2, .int .i64 t.f3] 32)).heap.size (w1.alloc (.cells #[.int .i64 t.f0, .string t.f1, .int .i64 t.f2, .int .i64 t.f3] 32))) (.cells #[.string ⟨#[116, 114, 117, 101]⟩, .string ⟨#[102, 97, 108, 115, 101]⟩] 9))))
  go_wp2_with (go_at_call 23; refine (tok_Token_Is.calls k t.f0 t.f1 t.f2 t.f3 _ 2 [⟨#[116, 114, 117, 101]⟩, ⟨#[102, 97, 108, 115, 101]⟩] false _ CC.out (by simp) hk.out).mono ?_)
  rintro x w4 ⟨rfl, hb4⟩
  have H4 := Aside0.mk (IsP.below HA.out hb4)
  have T4 := Aside0.mk (blk_below TA.out hb4)
  have K4 := Aside0.mk (KA.out.trans (KeepT.of_below hb4))
  clear hb4 HA TA KA CC H3 T3 K3
  go_wp2_with (go_at_call 155; refine (take_yes H4.out ⟨#[105, 110]⟩ (by rw [et.out]; exact HIN.out)).mono ?_)
  rintro x w5 ⟨rfl, h_, k_⟩
  have H5 := Aside0.mk h_
  have K5 := Aside0.mk (K4.out.trans k_)
  clear h_ k_
  go_wp2_with (go_at_call 155; refine (take_yes H5.out ⟨#[40]⟩ HAX.out).mono ?_)
  rintro x w6 ⟨rfl, h_, k_⟩
  have H6 := Aside0.mk h_
  have K6 := Aside0.mk (K5.out.trans k_)
  clear h_ k_
  go_wp2_with (go_at_call 162; refine (name_yes H6.out 17 he HBX.out).mono ?_)
  rintro x w7 ⟨rfl, h_, k_⟩
  have H7 := Aside0.mk h_
  have K7 := Aside0.mk (K6.out.trans k_)
  clear h_ k_
  go_wp2_with (go_at_call 155; refine (take_yes H7.out ⟨#[41]⟩ HCX.out).mono ?_)
  rintro x w8 ⟨rfl, h_, k_⟩
  have H8 := Aside0.mk h_
  have K8 := Aside0.mk (K7.out.trans k_)
  clear h_ k_
  go_wp2
  go_ret
  exact ⟨rfl, H8.out, K8.out⟩
set_option maxHeartbeats 4000000 in
set_option maxRecDepth 100000 in
theorem atom_paren0 {w0 w : World} {g : Nat} {A : Option Addr} {c : Nat} {l : List S32} {i : Nat} {e : List S156} (h : IsP w0 w g A c l (i : Int) e) (he : e.length ≤ 1000000) (h3 : (nextT l i).f0 ≠ 3) (h4 : (nextT l i).f0 ≠ 4) (htf : isT (nextT l i) [⟨#[116, 114, 117, 101]⟩, ⟨#[102, 97, 108, 115, 101]⟩] = false) (hin : isT (nextT l i) [⟨#[105, 110]⟩] = false) (hop : isT (nextT l i) [⟨#[40]⟩] = true) (hrec : ∀ w, IsP w0 w g A c l ((i + 1 : Nat) : Int) e → Calls Tryd.prog 115 #[.pointer (some ⟨g, 0, none⟩), .int .i64 0] w fun x w' => x = .returned (.bool false) ∧ Below w0.heap.size w0 w') :
    Calls Tryd.prog 156 #[.pointer (some ⟨g, 0, none⟩)] w fun x w' => x = .returned (.bool false) ∧ Below w0.heap.size w0 w' := by
  have H := Aside0.mk h
  have hm : l.length ≤ 9223372036854775807 := by obtain ⟨_, _, _, _, h4, _⟩ := h; exact h4.2.1
  clear h
  generalize et0 : nextT l i = t at h3 h4 htf hin hop ⊢
  have et := Aside0.mk et0
  clear et0
  have b0 : (t.f0 == 3) = false := beq_eq_false_iff_ne.2 h3
  have b1 : (t.f0 == 4) = false := beq_eq_false_iff_ne.2 h4
  obtain ⟨k, hk0⟩ := is_some t [⟨#[116, 114, 117, 101]⟩, ⟨#[102, 97, 108, 115, 101]⟩] (by simp)
  rw [htf] at hk0
  have hk := Aside0.mk hk0
  clear hk0 htf h3 h4
  have HIN := Aside0.mk hin
  have HOP := Aside0.mk hop
  clear hin hop
  have HRECX := Aside0.mk hrec
  clear hrec
  go_enter Tryd.func156, Tryd.ntmps156
  go_wp2_with (go_at_call 161; refine (next_calls H.out).mono ?_)
  rintro x w1 ⟨rfl, hb1⟩
  rw [et.out]
  have H1 := Aside0.mk (IsP.below H.out hb1)
  have K1 := Aside0.mk (KeepT.of_below hb1)
  clear hb1
  have T3 := Aside0.mk (blk_new w1 (.cells #[.int .i64 t.f0, .string t.f1, .int .i64 t.f2, .int .i64 t.f3] 32))
  have H3 := Aside0.mk (IsP.below H1.out (below_alloc (Below.refl w1.heap.size w1) (.cells #[.int .i64 t.f0, .string t.f1, .int .i64 t.f2, .int .i64 t.f3] 32)))
  have K3 := Aside0.mk (K1.out.trans (KeepT.of_below (below_alloc (Below.refl w1.heap.size w1) (.cells #[.int .i64 t.f0, .string t.f1, .int .i64 t.f2, .int .i64 t.f3] 32))))
  have ht3 := Aside0.mk (show g ≠ w1.heap.size by obtain ⟨_, q, _⟩ := H1.out; have := blk_lt q; omega)
  clear H1 K1
  have CC := Aside0.mk (C_str2 (new_at (.cells #[.string ⟨#[116, 114, 117, 101]⟩, .string ⟨#[102, 97, 108, 115, 101]⟩] 9) (sz_al (.cells #[.int .i64 t.f0, .string t.f1, .int .i64 t.f2, .int .i64 t.f3] 32) (rfl : w1.heap.size = w1.heap.size))))
  have HA := Aside0.mk (IsP.below H3.out (below_alloc (Below.refl _ _) (.cells #[.string ⟨#[116, 114, 117, 101]⟩, .string ⟨#[102, 97, 108, 115, 101]⟩] 9)))
  have TA := Aside0.mk (blk_alloc T3.out (.cells #[.string ⟨#[116, 114, 117, 101]⟩, .string ⟨#[102, 97, 108, 115, 101]⟩] 9))
  have KA := Aside0.mk (K3.out.trans (KeepT.of_below (below_alloc (Below.refl (w1.alloc (.cells #[.int .i64 t.f0, .string t.f1, .int .i64 t.f2, .int .i64 t.f3] 32)).heap.size (w1.alloc (.cells #[.int .i64 t.f0, .string t.f1, .int .i64 t.f2, .int .i64 t.f3] 32))) (.cells #[.string ⟨#[116, 114, 117, 101]⟩, .string ⟨#[102, 97, 108, 115, 101]⟩] 9))))
  go_wp2_with (go_at_call 23; refine (tok_Token_Is.calls k t.f0 t.f1 t.f2 t.f3 _ 2 [⟨#[116, 114, 117, 101]⟩, ⟨#[102, 97, 108, 115, 101]⟩] false _ CC.out (by simp) hk.out).mono ?_)
  rintro x w4 ⟨rfl, hb4⟩
  have H4 := Aside0.mk (IsP.below HA.out hb4)
  have T4 := Aside0.mk (blk_below TA.out hb4)
  have K4 := Aside0.mk (KA.out.trans (KeepT.of_below hb4))
  clear hb4 HA TA KA CC H3 T3 K3
  go_wp2_with (go_at_call 155; refine (take_no H4.out ⟨#[105, 110]⟩ (by rw [et.out]; exact HIN.out)).mono ?_)
  rintro x w5 ⟨rfl, h_, k_⟩
  have H5 := Aside0.mk h_
  have K5 := Aside0.mk (K4.out.trans k_)
  clear h_ k_
  go_wp2_with (go_at_call 155; refine (take_yes H5.out ⟨#[40]⟩ (by rw [et.out]; exact HOP.out)).mono ?_)
  rintro x w6 ⟨rfl, h_, k_⟩
  have H6 := Aside0.mk h_
  have K6 := Aside0.mk (K5.out.trans k_)
  clear h_ k_
  go_wp2_with (go_at_call 115; refine (HRECX.out _ H6.out).mono ?_)
  rintro x w7 ⟨rfl, h_⟩
  have B7 := Aside0.mk h_
  clear h_
  go_wp2
  go_ret
  exact ⟨rfl, B7.out⟩
set_option maxHeartbeats 4000000 in
set_option maxRecDepth 100000 in
theorem atom_paren1 {w0 w : World} {g : Nat} {A : Option Addr} {c : Nat} {l : List S32} {i : Nat} {e : List S156} (h : IsP w0 w g A c l (i : Int) e) (he : e.length ≤ 1000000) {i2 : Nat} {e2 : List S156} (h3 : (nextT l i).f0 ≠ 3) (h4 : (nextT l i).f0 ≠ 4) (htf : isT (nextT l i) [⟨#[116, 114, 117, 101]⟩, ⟨#[102, 97, 108, 115, 101]⟩] = false) (hin : isT (nextT l i) [⟨#[105, 110]⟩] = false) (hop : isT (nextT l i) [⟨#[40]⟩] = true) (hrec : ∀ w, IsP w0 w g A c l ((i + 1 : Nat) : Int) e → Calls Tryd.prog 115 #[.pointer (some ⟨g, 0, none⟩), .int .i64 0] w fun x w' => x = .returned (.bool true) ∧ IsP w0 w' g A c l (i2 : Int) e2 ∧ KeepT w w') (hcl : isT (nextT l i2) [⟨#[41]⟩] = false) :
    Calls Tryd.prog 156 #[.pointer (some ⟨g, 0, none⟩)] w fun x w' => x = .returned (.bool false) ∧ Below w0.heap.size w0 w' := by
  have H := Aside0.mk h
  have hm : l.length ≤ 9223372036854775807 := by obtain ⟨_, _, _, _, h4, _⟩ := h; exact h4.2.1
  clear h
  generalize et0 : nextT l i = t at h3 h4 htf hin hop ⊢
  have et := Aside0.mk et0
  clear et0
  have b0 : (t.f0 == 3) = false := beq_eq_false_iff_ne.2 h3
  have b1 : (t.f0 == 4) = false := beq_eq_false_iff_ne.2 h4
  obtain ⟨k, hk0⟩ := is_some t [⟨#[116, 114, 117, 101]⟩, ⟨#[102, 97, 108, 115, 101]⟩] (by simp)
  rw [htf] at hk0
  have hk := Aside0.mk hk0
  clear hk0 htf h3 h4
  have HIN := Aside0.mk hin
  have HOP := Aside0.mk hop
  clear hin hop
  have HRECX := Aside0.mk hrec
  clear hrec
  have HCLX := Aside0.mk hcl
  clear hcl
  go_enter Tryd.func156, Tryd.ntmps156
  go_wp2_with (go_at_call 161; refine (next_calls H.out).mono ?_)
  rintro x w1 ⟨rfl, hb1⟩
  rw [et.out]
  have H1 := Aside0.mk (IsP.below H.out hb1)
  have K1 := Aside0.mk (KeepT.of_below hb1)
  clear hb1
  have T3 := Aside0.mk (blk_new w1 (.cells #[.int .i64 t.f0, .string t.f1, .int .i64 t.f2, .int .i64 t.f3] 32))
  have H3 := Aside0.mk (IsP.below H1.out (below_alloc (Below.refl w1.heap.size w1) (.cells #[.int .i64 t.f0, .string t.f1, .int .i64 t.f2, .int .i64 t.f3] 32)))
  have K3 := Aside0.mk (K1.out.trans (KeepT.of_below (below_alloc (Below.refl w1.heap.size w1) (.cells #[.int .i64 t.f0, .string t.f1, .int .i64 t.f2, .int .i64 t.f3] 32))))
  have ht3 := Aside0.mk (show g ≠ w1.heap.size by obtain ⟨_, q, _⟩ := H1.out; have := blk_lt q; omega)
  clear H1 K1
  have CC := Aside0.mk (C_str2 (new_at (.cells #[.string ⟨#[116, 114, 117, 101]⟩, .string ⟨#[102, 97, 108, 115, 101]⟩] 9) (sz_al (.cells #[.int .i64 t.f0, .string t.f1, .int .i64 t.f2, .int .i64 t.f3] 32) (rfl : w1.heap.size = w1.heap.size))))
  have HA := Aside0.mk (IsP.below H3.out (below_alloc (Below.refl _ _) (.cells #[.string ⟨#[116, 114, 117, 101]⟩, .string ⟨#[102, 97, 108, 115, 101]⟩] 9)))
  have TA := Aside0.mk (blk_alloc T3.out (.cells #[.string ⟨#[116, 114, 117, 101]⟩, .string ⟨#[102, 97, 108, 115, 101]⟩] 9))
  have KA := Aside0.mk (K3.out.trans (KeepT.of_below (below_alloc (Below.refl (w1.alloc (.cells #[.int .i64 t.f0, .string t.f1, .int .i64 t.f2, .int .i64 t.f3] 32)).heap.size (w1.alloc (.cells #[.int .i64 t.f0, .string t.f1, .int .i64 t.f2, .int .i64 t.f3] 32))) (.cells #[.string ⟨#[116, 114, 117, 101]⟩, .string ⟨#[102, 97, 108, 115, 101]⟩] 9))))
  go_wp2_with (go_at_call 23; refine (tok_Token_Is.calls k t.f0 t.f1 t.f2 t.f3 _ 2 [⟨#[116, 114, 117, 101]⟩, ⟨#[102, 97, 108, 115, 101]⟩] false _ CC.out (by simp) hk.out).mono ?_)
  rintro x w4 ⟨rfl, hb4⟩
  have H4 := Aside0.mk (IsP.below HA.out hb4)
  have T4 := Aside0.mk (blk_below TA.out hb4)
  have K4 := Aside0.mk (KA.out.trans (KeepT.of_below hb4))
  clear hb4 HA TA KA CC H3 T3 K3
  go_wp2_with (go_at_call 155; refine (take_no H4.out ⟨#[105, 110]⟩ (by rw [et.out]; exact HIN.out)).mono ?_)
  rintro x w5 ⟨rfl, h_, k_⟩
  have H5 := Aside0.mk h_
  have K5 := Aside0.mk (K4.out.trans k_)
  clear h_ k_
  go_wp2_with (go_at_call 155; refine (take_yes H5.out ⟨#[40]⟩ (by rw [et.out]; exact HOP.out)).mono ?_)
  rintro x w6 ⟨rfl, h_, k_⟩
  have H6 := Aside0.mk h_
  have K6 := Aside0.mk (K5.out.trans k_)
  clear h_ k_
  go_wp2_with (go_at_call 115; refine (HRECX.out _ H6.out).mono ?_)
  rintro x w7 ⟨rfl, h_, k_⟩
  have H7 := Aside0.mk h_
  have K7 := Aside0.mk (K6.out.trans k_)
  clear h_ k_
  go_wp2_with (go_at_call 155; refine (take_no H7.out ⟨#[41]⟩ HCLX.out).mono ?_)
  rintro x w8 ⟨rfl, h_, k_⟩
  have H8 := Aside0.mk h_
  have K8 := Aside0.mk (K7.out.trans k_)
  clear h_ k_
  go_wp2
  go_ret
  exact ⟨rfl, IsP.bel H8.out⟩
set_option maxHeartbeats 4000000 in
set_option maxRecDepth 100000 in
theorem atom_paren2 {w0 w : World} {g : Nat} {A : Option Addr} {c : Nat} {l : List S32} {i : Nat} {e : List S156} (h : IsP w0 w g A c l (i : Int) e) (he : e.length ≤ 1000000) {i2 : Nat} {e2 : List S156} (h3 : (nextT l i).f0 ≠ 3) (h4 : (nextT l i).f0 ≠ 4) (htf : isT (nextT l i) [⟨#[116, 114, 117, 101]⟩, ⟨#[102, 97, 108, 115, 101]⟩] = false) (hin : isT (nextT l i) [⟨#[105, 110]⟩] = false) (hop : isT (nextT l i) [⟨#[40]⟩] = true) (hrec : ∀ w, IsP w0 w g A c l ((i + 1 : Nat) : Int) e → Calls Tryd.prog 115 #[.pointer (some ⟨g, 0, none⟩), .int .i64 0] w fun x w' => x = .returned (.bool true) ∧ IsP w0 w' g A c l (i2 : Int) e2 ∧ KeepT w w') (hcl : isT (nextT l i2) [⟨#[41]⟩] = true) :
    Calls Tryd.prog 156 #[.pointer (some ⟨g, 0, none⟩)] w fun x w' => x = .returned (.bool true) ∧ IsP w0 w' g A c l ((i2 + 1 : Nat) : Int) e2 ∧ KeepT w w' := by
  have H := Aside0.mk h
  have hm : l.length ≤ 9223372036854775807 := by obtain ⟨_, _, _, _, h4, _⟩ := h; exact h4.2.1
  clear h
  generalize et0 : nextT l i = t at h3 h4 htf hin hop ⊢
  have et := Aside0.mk et0
  clear et0
  have b0 : (t.f0 == 3) = false := beq_eq_false_iff_ne.2 h3
  have b1 : (t.f0 == 4) = false := beq_eq_false_iff_ne.2 h4
  obtain ⟨k, hk0⟩ := is_some t [⟨#[116, 114, 117, 101]⟩, ⟨#[102, 97, 108, 115, 101]⟩] (by simp)
  rw [htf] at hk0
  have hk := Aside0.mk hk0
  clear hk0 htf h3 h4
  have HIN := Aside0.mk hin
  have HOP := Aside0.mk hop
  clear hin hop
  have HRECX := Aside0.mk hrec
  clear hrec
  have HCLX := Aside0.mk hcl
  clear hcl
  go_enter Tryd.func156, Tryd.ntmps156
  go_wp2_with (go_at_call 161; refine (next_calls H.out).mono ?_)
  rintro x w1 ⟨rfl, hb1⟩
  rw [et.out]
  have H1 := Aside0.mk (IsP.below H.out hb1)
  have K1 := Aside0.mk (KeepT.of_below hb1)
  clear hb1
  have T3 := Aside0.mk (blk_new w1 (.cells #[.int .i64 t.f0, .string t.f1, .int .i64 t.f2, .int .i64 t.f3] 32))
  have H3 := Aside0.mk (IsP.below H1.out (below_alloc (Below.refl w1.heap.size w1) (.cells #[.int .i64 t.f0, .string t.f1, .int .i64 t.f2, .int .i64 t.f3] 32)))
  have K3 := Aside0.mk (K1.out.trans (KeepT.of_below (below_alloc (Below.refl w1.heap.size w1) (.cells #[.int .i64 t.f0, .string t.f1, .int .i64 t.f2, .int .i64 t.f3] 32))))
  have ht3 := Aside0.mk (show g ≠ w1.heap.size by obtain ⟨_, q, _⟩ := H1.out; have := blk_lt q; omega)
  clear H1 K1
  have CC := Aside0.mk (C_str2 (new_at (.cells #[.string ⟨#[116, 114, 117, 101]⟩, .string ⟨#[102, 97, 108, 115, 101]⟩] 9) (sz_al (.cells #[.int .i64 t.f0, .string t.f1, .int .i64 t.f2, .int .i64 t.f3] 32) (rfl : w1.heap.size = w1.heap.size))))
  have HA := Aside0.mk (IsP.below H3.out (below_alloc (Below.refl _ _) (.cells #[.string ⟨#[116, 114, 117, 101]⟩, .string ⟨#[102, 97, 108, 115, 101]⟩] 9)))
  have TA := Aside0.mk (blk_alloc T3.out (.cells #[.string ⟨#[116, 114, 117, 101]⟩, .string ⟨#[102, 97, 108, 115, 101]⟩] 9))
  have KA := Aside0.mk (K3.out.trans (KeepT.of_below (below_alloc (Below.refl (w1.alloc (.cells #[.int .i64 t.f0, .string t.f1, .int .i64 t.f2, .int .i64 t.f3] 32)).heap.size (w1.alloc (.cells #[.int .i64 t.f0, .string t.f1, .int .i64 t.f2, .int .i64 t.f3] 32))) (.cells #[.string ⟨#[116, 114, 117, 101]⟩, .string ⟨#[102, 97, 108, 115, 101]⟩] 9))))
  go_wp2_with (go_at_call 23; refine (tok_Token_Is.calls k t.f0 t.f1 t.f2 t.f3 _ 2 [⟨#[116, 114, 117, 101]⟩, ⟨#[102, 97, 108, 115, 101]⟩] false _ CC.out (by simp) hk.out).mono ?_)
  rintro x w4 ⟨rfl, hb4⟩
  have H4 := Aside0.mk (IsP.below HA.out hb4)
  have T4 := Aside0.mk (blk_below TA.out hb4)
  have K4 := Aside0.mk (KA.out.trans (KeepT.of_below hb4))
  clear hb4 HA TA KA CC H3 T3 K3
  go_wp2_with (go_at_call 155; refine (take_no H4.out ⟨#[105, 110]⟩ (by rw [et.out]; exact HIN.out)).mono ?_)
  rintro x w5 ⟨rfl, h_, k_⟩
  have H5 := Aside0.mk h_
  have K5 := Aside0.mk (K4.out.trans k_)
  clear h_ k_
  go_wp2_with (go_at_call 155; refine (take_yes H5.out ⟨#[40]⟩ (by rw [et.out]; exact HOP.out)).mono ?_)
  rintro x w6 ⟨rfl, h_, k_⟩
  have H6 := Aside0.mk h_
  have K6 := Aside0.mk (K5.out.trans k_)
  clear h_ k_
  go_wp2_with (go_at_call 115; refine (HRECX.out _ H6.out).mono ?_)
  rintro x w7 ⟨rfl, h_, k_⟩
  have H7 := Aside0.mk h_
  have K7 := Aside0.mk (K6.out.trans k_)
  clear h_ k_
  go_wp2_with (go_at_call 155; refine (take_yes H7.out ⟨#[41]⟩ HCLX.out).mono ?_)
  rintro x w8 ⟨rfl, h_, k_⟩
  have H8 := Aside0.mk h_
  have K8 := Aside0.mk (K7.out.trans k_)
  clear h_ k_
  go_wp2
  go_ret
  exact ⟨rfl, H8.out, K8.out⟩
set_option maxHeartbeats 4000000 in
set_option maxRecDepth 100000 in
theorem atom_name0 {w0 w : World} {g : Nat} {A : Option Addr} {c : Nat} {l : List S32} {i : Nat} {e : List S156} (h : IsP w0 w g A c l (i : Int) e) (he : e.length ≤ 1000000) (h3 : (nextT l i).f0 ≠ 3) (h4 : (nextT l i).f0 ≠ 4) (htf : isT (nextT l i) [⟨#[116, 114, 117, 101]⟩, ⟨#[102, 97, 108, 115, 101]⟩] = false) (hin : isT (nextT l i) [⟨#[105, 110]⟩] = false) (hop : isT (nextT l i) [⟨#[40]⟩] = false) (hnm : nameT (nextT l i) = false) :
    Calls Tryd.prog 156 #[.pointer (some ⟨g, 0, none⟩)] w fun x w' => x = .returned (.bool false) ∧ Below w0.heap.size w0 w' := by
  have H := Aside0.mk h
  have hm : l.length ≤ 9223372036854775807 := by obtain ⟨_, _, _, _, h4, _⟩ := h; exact h4.2.1
  clear h
  generalize et0 : nextT l i = t at h3 h4 htf hin hop hnm ⊢
  have et := Aside0.mk et0
  clear et0
  have b0 : (t.f0 == 3) = false := beq_eq_false_iff_ne.2 h3
  have b1 : (t.f0 == 4) = false := beq_eq_false_iff_ne.2 h4
  obtain ⟨k, hk0⟩ := is_some t [⟨#[116, 114, 117, 101]⟩, ⟨#[102, 97, 108, 115, 101]⟩] (by simp)
  rw [htf] at hk0
  have hk := Aside0.mk hk0
  clear hk0 htf h3 h4
  have HIN := Aside0.mk hin
  have HOP := Aside0.mk hop
  have HNM := Aside0.mk hnm
  clear hin hop hnm
  go_enter Tryd.func156, Tryd.ntmps156
  go_wp2_with (go_at_call 161; refine (next_calls H.out).mono ?_)
  rintro x w1 ⟨rfl, hb1⟩
  rw [et.out]
  have H1 := Aside0.mk (IsP.below H.out hb1)
  have K1 := Aside0.mk (KeepT.of_below hb1)
  clear hb1
  have T3 := Aside0.mk (blk_new w1 (.cells #[.int .i64 t.f0, .string t.f1, .int .i64 t.f2, .int .i64 t.f3] 32))
  have H3 := Aside0.mk (IsP.below H1.out (below_alloc (Below.refl w1.heap.size w1) (.cells #[.int .i64 t.f0, .string t.f1, .int .i64 t.f2, .int .i64 t.f3] 32)))
  have K3 := Aside0.mk (K1.out.trans (KeepT.of_below (below_alloc (Below.refl w1.heap.size w1) (.cells #[.int .i64 t.f0, .string t.f1, .int .i64 t.f2, .int .i64 t.f3] 32))))
  have ht3 := Aside0.mk (show g ≠ w1.heap.size by obtain ⟨_, q, _⟩ := H1.out; have := blk_lt q; omega)
  clear H1 K1
  have CC := Aside0.mk (C_str2 (new_at (.cells #[.string ⟨#[116, 114, 117, 101]⟩, .string ⟨#[102, 97, 108, 115, 101]⟩] 9) (sz_al (.cells #[.int .i64 t.f0, .string t.f1, .int .i64 t.f2, .int .i64 t.f3] 32) (rfl : w1.heap.size = w1.heap.size))))
  have HA := Aside0.mk (IsP.below H3.out (below_alloc (Below.refl _ _) (.cells #[.string ⟨#[116, 114, 117, 101]⟩, .string ⟨#[102, 97, 108, 115, 101]⟩] 9)))
  have TA := Aside0.mk (blk_alloc T3.out (.cells #[.string ⟨#[116, 114, 117, 101]⟩, .string ⟨#[102, 97, 108, 115, 101]⟩] 9))
  have KA := Aside0.mk (K3.out.trans (KeepT.of_below (below_alloc (Below.refl (w1.alloc (.cells #[.int .i64 t.f0, .string t.f1, .int .i64 t.f2, .int .i64 t.f3] 32)).heap.size (w1.alloc (.cells #[.int .i64 t.f0, .string t.f1, .int .i64 t.f2, .int .i64 t.f3] 32))) (.cells #[.string ⟨#[116, 114, 117, 101]⟩, .string ⟨#[102, 97, 108, 115, 101]⟩] 9))))
  go_wp2_with (go_at_call 23; refine (tok_Token_Is.calls k t.f0 t.f1 t.f2 t.f3 _ 2 [⟨#[116, 114, 117, 101]⟩, ⟨#[102, 97, 108, 115, 101]⟩] false _ CC.out (by simp) hk.out).mono ?_)
  rintro x w4 ⟨rfl, hb4⟩
  have H4 := Aside0.mk (IsP.below HA.out hb4)
  have T4 := Aside0.mk (blk_below TA.out hb4)
  have K4 := Aside0.mk (KA.out.trans (KeepT.of_below hb4))
  clear hb4 HA TA KA CC H3 T3 K3
  go_wp2_with (go_at_call 155; refine (take_no H4.out ⟨#[105, 110]⟩ (by rw [et.out]; exact HIN.out)).mono ?_)
  rintro x w5 ⟨rfl, h_, k_⟩
  have H5 := Aside0.mk h_
  have K5 := Aside0.mk (K4.out.trans k_)
  clear h_ k_
  go_wp2_with (go_at_call 155; refine (take_no H5.out ⟨#[40]⟩ (by rw [et.out]; exact HOP.out)).mono ?_)
  rintro x w6 ⟨rfl, h_, k_⟩
  have H6 := Aside0.mk h_
  have K6 := Aside0.mk (K5.out.trans k_)
  clear h_ k_
  go_wp2_with (go_at_call 162; refine (name_no H6.out 16 (by rw [et.out]; exact HNM.out)).mono ?_)
  rintro x w7 ⟨rfl, h_⟩
  have B7 := Aside0.mk h_
  clear h_
  go_wp2
  go_ret
  exact ⟨rfl, B7.out⟩
set_option maxHeartbeats 4000000 in
set_option maxRecDepth 100000 in
theorem atom_name1 {w0 w : World} {g : Nat} {A : Option Addr} {c : Nat} {l : List S32} {i : Nat} {e : List S156} (h : IsP w0 w g A c l (i : Int) e) (he : e.length ≤ 1000000) (h3 : (nextT l i).f0 ≠ 3) (h4 : (nextT l i).f0 ≠ 4) (htf : isT (nextT l i) [⟨#[116, 114, 117, 101]⟩, ⟨#[102, 97, 108, 115, 101]⟩] = false) (hin : isT (nextT l i) [⟨#[105, 110]⟩] = false) (hop : isT (nextT l i) [⟨#[40]⟩] = false) (hnm : nameT (nextT l i) = true) :
    Calls Tryd.prog 156 #[.pointer (some ⟨g, 0, none⟩)] w fun x w' => x = .returned (.bool true) ∧ IsP w0 w' g A c l ((i + 1 : Nat) : Int) (e ++ [nodeN 16 (nextT l i).f1]) ∧ KeepT w w' := by
  have H := Aside0.mk h
  have hm : l.length ≤ 9223372036854775807 := by obtain ⟨_, _, _, _, h4, _⟩ := h; exact h4.2.1
  clear h
  generalize et0 : nextT l i = t at h3 h4 htf hin hop hnm ⊢
  have et := Aside0.mk et0
  clear et0
  have b0 : (t.f0 == 3) = false := beq_eq_false_iff_ne.2 h3
  have b1 : (t.f0 == 4) = false := beq_eq_false_iff_ne.2 h4
  obtain ⟨k, hk0⟩ := is_some t [⟨#[116, 114, 117, 101]⟩, ⟨#[102, 97, 108, 115, 101]⟩] (by simp)
  rw [htf] at hk0
  have hk := Aside0.mk hk0
  clear hk0 htf h3 h4
  have HIN := Aside0.mk hin
  have HOP := Aside0.mk hop
  have HNM := Aside0.mk hnm
  clear hin hop hnm
  go_enter Tryd.func156, Tryd.ntmps156
  go_wp2_with (go_at_call 161; refine (next_calls H.out).mono ?_)
  rintro x w1 ⟨rfl, hb1⟩
  rw [et.out]
  have H1 := Aside0.mk (IsP.below H.out hb1)
  have K1 := Aside0.mk (KeepT.of_below hb1)
  clear hb1
  have T3 := Aside0.mk (blk_new w1 (.cells #[.int .i64 t.f0, .string t.f1, .int .i64 t.f2, .int .i64 t.f3] 32))
  have H3 := Aside0.mk (IsP.below H1.out (below_alloc (Below.refl w1.heap.size w1) (.cells #[.int .i64 t.f0, .string t.f1, .int .i64 t.f2, .int .i64 t.f3] 32)))
  have K3 := Aside0.mk (K1.out.trans (KeepT.of_below (below_alloc (Below.refl w1.heap.size w1) (.cells #[.int .i64 t.f0, .string t.f1, .int .i64 t.f2, .int .i64 t.f3] 32))))
  have ht3 := Aside0.mk (show g ≠ w1.heap.size by obtain ⟨_, q, _⟩ := H1.out; have := blk_lt q; omega)
  clear H1 K1
  have CC := Aside0.mk (C_str2 (new_at (.cells #[.string ⟨#[116, 114, 117, 101]⟩, .string ⟨#[102, 97, 108, 115, 101]⟩] 9) (sz_al (.cells #[.int .i64 t.f0, .string t.f1, .int .i64 t.f2, .int .i64 t.f3] 32) (rfl : w1.heap.size = w1.heap.size))))
  have HA := Aside0.mk (IsP.below H3.out (below_alloc (Below.refl _ _) (.cells #[.string ⟨#[116, 114, 117, 101]⟩, .string ⟨#[102, 97, 108, 115, 101]⟩] 9)))
  have TA := Aside0.mk (blk_alloc T3.out (.cells #[.string ⟨#[116, 114, 117, 101]⟩, .string ⟨#[102, 97, 108, 115, 101]⟩] 9))
  have KA := Aside0.mk (K3.out.trans (KeepT.of_below (below_alloc (Below.refl (w1.alloc (.cells #[.int .i64 t.f0, .string t.f1, .int .i64 t.f2, .int .i64 t.f3] 32)).heap.size (w1.alloc (.cells #[.int .i64 t.f0, .string t.f1, .int .i64 t.f2, .int .i64 t.f3] 32))) (.cells #[.string ⟨#[116, 114, 117, 101]⟩, .string ⟨#[102, 97, 108, 115, 101]⟩] 9))))
  go_wp2_with (go_at_call 23; refine (tok_Token_Is.calls k t.f0 t.f1 t.f2 t.f3 _ 2 [⟨#[116, 114, 117, 101]⟩, ⟨#[102, 97, 108, 115, 101]⟩] false _ CC.out (by simp) hk.out).mono ?_)
  rintro x w4 ⟨rfl, hb4⟩
  have H4 := Aside0.mk (IsP.below HA.out hb4)
  have T4 := Aside0.mk (blk_below TA.out hb4)
  have K4 := Aside0.mk (KA.out.trans (KeepT.of_below hb4))
  clear hb4 HA TA KA CC H3 T3 K3
  go_wp2_with (go_at_call 155; refine (take_no H4.out ⟨#[105, 110]⟩ (by rw [et.out]; exact HIN.out)).mono ?_)
  rintro x w5 ⟨rfl, h_, k_⟩
  have H5 := Aside0.mk h_
  have K5 := Aside0.mk (K4.out.trans k_)
  clear h_ k_
  go_wp2_with (go_at_call 155; refine (take_no H5.out ⟨#[40]⟩ (by rw [et.out]; exact HOP.out)).mono ?_)
  rintro x w6 ⟨rfl, h_, k_⟩
  have H6 := Aside0.mk h_
  have K6 := Aside0.mk (K5.out.trans k_)
  clear h_ k_
  go_wp2_with (go_at_call 162; refine (name_yes H6.out 16 he (by rw [et.out]; exact HNM.out)).mono ?_)
  rintro x w7 ⟨rfl, h_, k_⟩
  have H7 := Aside0.mk h_
  have K7 := Aside0.mk (K6.out.trans k_)
  clear h_ k_
  go_wp2
  go_ret
  exact ⟨rfl, by rw [← et.out]; exact H7.out, K7.out⟩
end Go.Proofs.YtbngfhlciebeeaaDoor.L
