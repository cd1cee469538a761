/- Printed and hand-written steps towards the row (EvalShort), those that it reaches. -/
import Derived.Test.YtbngfhlciebeeaaDoorEvalShortGPars3
import Derived.Test.YtbngfhlciebeeaaDoorEvalShortG8
import Derived.Test.YtbngfhlciebeeaaDoorEvalShortG9
section
namespace Go.Proofs.YtbngfhlciebeeaaDoor.Sp
set_option linter.unusedVariables false
set_option linter.unusedSimpArgs false
open Go.RowKit Go.Proofs.YtbngfhlciebeeaaDoorW.PrintWords Go.Proofs.YtbngfhlciebeeaaDoorW.PrintMore Go.Proofs.YtbngfhlciebeeaaDoor.L
inductive Seg (l : List S156) : Nat → Nat → Prop
  | leaf {b : Nat} {x : S156} (h : l[b]? = some x) (o : x.f0 = 0 ∨ x.f0 = 16 ∨ x.f0 = 17) : Seg l b b
  | one {a b : Nat} {x : S156} (h : l[b + 1]? = some x) (o : x.f0 = 1 ∨ x.f0 = 2) (hl : x.f3 = (b : Int)) (s : Seg l a b) : Seg l a (b + 1)
  | two {a b c : Nat} {x : S156} (h : l[b + 1]? = some x) (o : 3 ≤ x.f0 ∧ x.f0 ≤ 15) (hl : x.f3 = (c : Int)) (hr : x.f4 = (b : Int)) (s : Seg l a c) (t : Seg l (c + 1) b) : Seg l a (b + 1)
theorem Seg.le {l : List S156} {a b : Nat} (h : Seg l a b) : a ≤ b := by
  induction h with
  | leaf => omega
  | one _ _ _ _ ih => omega
  | two _ _ _ _ _ _ i1 i2 => omega
theorem Seg.lt {l : List S156} {a b : Nat} (h : Seg l a b) : b < l.length := by
  cases h with
  | leaf h => exact (List.getElem?_eq_some_iff.1 h).1
  | one h => exact (List.getElem?_eq_some_iff.1 h).1
  | two h => exact (List.getElem?_eq_some_iff.1 h).1
theorem pre_at {e e2 : List S156} (h : e <+: e2) {j : Nat} {x : S156} (hx : e[j]? = some x) : e2[j]? = some x := by
  obtain ⟨t, rfl⟩ := h
  rw [List.getElem?_append_left (List.getElem?_eq_some_iff.1 hx).1]; exact hx
theorem Seg.pre {e e2 : List S156} (h : e <+: e2) {a b : Nat} (s : Seg e a b) : Seg e2 a b := by
  induction s with
  | leaf h1 o => exact .leaf (pre_at h h1) o
  | one h1 o hl _ ih => exact .one (pre_at h h1) o hl ih
  | two h1 o hl hr _ _ i1 i2 => exact .two (pre_at h h1) o hl hr i1 i2
def PlainS (s : ByteArray) : Prop := (s.data.toList.all val_Plain.ok && decide (s.size ≤ 48)) = true
def ValOk (v : S103) : Prop := (v.f0 = 1 ∧ v.f2 = ⟨#[]⟩) ∨ (v.f0 = 2 ∧ (v.f1 = 0 ∨ v.f1 = 1) ∧ v.f2 = ⟨#[]⟩) ∨ (v.f0 = 3 ∧ v.f1 = 0 ∧ PlainS v.f2)
inductive NodeOk : S156 → Nat → Prop
  | lit {j : Nat} (v : S103) (h : ValOk v) (h1 : v.f0 = 1 → 0 ≤ v.f1 ∧ v.f1 ≤ 9223372036854775807) : NodeOk (nodeV v) j
  | name {j : Nat} (op : Int) (s : ByteArray) (o : op = 16 ∨ op = 17) (h : nameT s = true) : NodeOk (nodeN op s) j
  | one {j : Nat} (op : Int) (o : op = 1 ∨ op = 2) (hj : 1 ≤ j) : NodeOk (nodeO op ((j : Int) - 1) 0) j
  | two {j : Nat} (op c : Int) (o : 3 ≤ op ∧ op ≤ 15) (h0 : 0 ≤ c) (h1 : c < (j : Int)) : NodeOk (nodeO op c ((j : Int) - 1)) j
def Grows (e e2 : List S156) : Prop := e <+: e2 ∧ ∀ (j : Nat) (x : S156), e.length ≤ j → e2[j]? = some x → NodeOk x j
theorem Grows.refl (e : List S156) : Grows e e := ⟨List.prefix_rfl, fun j x hj hx => absurd (List.getElem?_eq_some_iff.1 hx).1 (by omega)⟩
theorem Grows.trans {e e2 e3 : List S156} (h : Grows e e2) (k : Grows e2 e3) : Grows e e3 := ⟨h.1.trans k.1, fun j x hj hx => by
  by_cases hlt : j < e2.length
  · have h1 := pre_at k.1 (List.getElem?_eq_getElem hlt)
    rw [hx] at h1
    rw [Option.some.inj h1]
    exact h.2 j _ hj (List.getElem?_eq_getElem hlt)
  · exact k.2 j x (by omega) hx⟩
theorem Grows.snoc {e : List S156} {x : S156} (h : NodeOk x e.length) : Grows e (e ++ [x]) := ⟨List.prefix_append _ _, fun j y hj hy => by
  have h1 := (List.getElem?_eq_some_iff.1 hy).1
  rw [List.length_append, List.length_singleton] at h1
  obtain rfl : j = e.length := by omega
  rw [List.getElem?_append_right (Nat.le_refl _), Nat.sub_self] at hy
  obtain rfl := Option.some.inj hy
  exact h⟩
theorem Grows.len {e e2 : List S156} (h : Grows e e2) : e.length ≤ e2.length := h.1.length_le
theorem last_at (e : List S156) (x : S156) : (e ++ [x])[e.length]? = some x := by simp
theorem len_snoc (e : List S156) (x : S156) : (e ++ [x]).length - 1 = e.length := by simp
theorem seg_leaf (e : List S156) {x : S156} (o : x.f0 = 0 ∨ x.f0 = 16 ∨ x.f0 = 17) : Seg (e ++ [x]) e.length ((e ++ [x]).length - 1) := by
  rw [len_snoc]; exact .leaf (last_at e x) o
theorem seg_one {e : List S156} {a : Nat} {op : Int} (o : op = 1 ∨ op = 2) (s : Seg e a (e.length - 1)) : Seg (e ++ [nodeO op ((e.length : Int) - 1) 0]) a ((e ++ [nodeO op ((e.length : Int) - 1) 0]).length - 1) := by
  have := s.lt
  rw [len_snoc]
  obtain ⟨n, hn⟩ : ∃ n, e.length = n + 1 := ⟨e.length - 1, by omega⟩
  rw [hn, Nat.add_sub_cancel] at s
  rw [hn]
  refine .one (x := nodeO op (((n + 1 : Nat) : Int) - 1) 0) ?_ o ?_ (s.pre (List.prefix_append _ _))
  · rw [← hn]; exact last_at _ _
  · show ((n + 1 : Nat) : Int) - 1 = n; omega
theorem seg_two {e e2 : List S156} {a : Nat} {op : Int} (o : 3 ≤ op ∧ op ≤ 15) (hp : e <+: e2) (h0 : a < e.length) (s : Seg e a (e.length - 1)) (t : Seg e2 e.length (e2.length - 1)) :
    Seg (e2 ++ [nodeO op ((e.length : Int) - 1) ((e2.length : Int) - 1)]) a ((e2 ++ [nodeO op ((e.length : Int) - 1) ((e2.length : Int) - 1)]).length - 1) := by
  have := t.lt
  rw [len_snoc]
  have hat := last_at e2 (nodeO op ((e.length : Int) - 1) ((e2.length : Int) - 1))
  have t' : Seg (e2 ++ [nodeO op ((e.length : Int) - 1) ((e2.length : Int) - 1)]) _ _ := t.pre (List.prefix_append _ _)
  have s' : Seg (e2 ++ [nodeO op ((e.length : Int) - 1) ((e2.length : Int) - 1)]) _ _ := (s.pre hp).pre (List.prefix_append _ _)
  generalize e2 ++ [nodeO op ((e.length : Int) - 1) ((e2.length : Int) - 1)] = L at *
  obtain ⟨n, hn⟩ : ∃ n, e2.length = n + 1 := ⟨e2.length - 1, by omega⟩
  rw [hn] at hat t' ⊢
  rw [Nat.add_sub_cancel] at t'
  obtain ⟨c, hc⟩ : ∃ c, e.length = c + 1 := ⟨e.length - 1, by omega⟩
  rw [hc] at hat t' s'
  rw [Nat.add_sub_cancel] at s'
  refine .two (c := c) hat o ?_ ?_ s' t'
  · show ((c + 1 : Nat) : Int) - 1 = c; omega
  · show ((n + 1 : Nat) : Int) - 1 = n; omega
def TokOk (t : S32) : Prop := (t.f0 = 3 → 0 ≤ t.f2 ∧ t.f2 ≤ 9223372036854775807) ∧ (t.f0 = 4 → PlainS t.f1) ∧ (t.f0 = 1 → ¬ t.f1.data.toList ∈ meanWords → nameT t.f1 = true)
theorem opIn_mem : ∀ (ss : List ByteArray) (os : List Int) (t : S32) (o : Int), opIn ss os t = some o → o ∈ os
  | [], os, t, o, h => by cases os <;> simp [opIn] at h
  | s :: ss, [], t, o, h => by simp [opIn] at h
  | s :: ss, o' :: os, t, o, h => by
    simp only [opIn] at h
    by_cases hs : isT t [s] = true
    · rw [if_pos hs] at h
      rw [Option.some.inj h]; exact List.mem_cons_self
    · rw [if_neg hs] at h
      exact List.mem_cons_of_mem _ (opIn_mem ss os t o h)
theorem lev_ops (m : Nat) : ∀ o ∈ (levAt m).ops, 3 ≤ o ∧ o ≤ 15 := by
  by_cases h : m < 5
  · have : m = 0 ∨ m = 1 ∨ m = 2 ∨ m = 3 ∨ m = 4 := by omega
    rcases this with rfl | rfl | rfl | rfl | rfl <;> decide
  · unfold levAt
    rw [List.getD_eq_getElem?_getD, List.getElem?_eq_none (by show 5 ≤ m; omega)]
    intro o ho; cases ho
theorem lname_ok {t : S32} (h : TokOk t) (hn : L.nameT t = true) : nameT t.f1 = true := by
  unfold L.nameT at hn
  simp only [Bool.and_eq_true, beq_iff_eq, Bool.not_eq_true', decide_eq_false_iff_not] at hn
  exact h.2.2 hn.1 hn.2
theorem truth_ok (b : Bool) : ValOk (truthV b) := by
  cases b
  · exact Or.inr (Or.inl ⟨rfl, Or.inl rfl, rfl⟩)
  · exact Or.inr (Or.inl ⟨rfl, Or.inr rfl, rfl⟩)
theorem truth_kind (b : Bool) : (truthV b).f0 = 2 := by cases b <;> rfl
theorem pa_seg (l : List S32) (hl : ∀ i, i < l.length → TokOk (nextT l i)) : ∀ (k m i : Nat) (e : List S156) (i2 : Nat) (e2 : List S156), pa k l m i e = some (some (i2, e2)) → (7 ≤ m → 0 < e.length) →
    Grows e e2 ∧ (m ≤ 6 → e.length < e2.length ∧ Seg e2 e.length (e2.length - 1)) ∧ (7 ≤ m → ∀ a, a < e.length → Seg e a (e.length - 1) → Seg e2 a (e2.length - 1)) := by
  intro k
  induction k with
  | zero => intro m i e i2 e2 h _; simp [pa] at h
  | succ k ih =>
    intro m i e i2 e2 h hne
    have fin : ∀ {n : Nat} {x : S156}, some (some (n, e ++ [x])) = some (some (i2, e2)) → m = 6 → NodeOk x e.length → (x.f0 = 0 ∨ x.f0 = 16 ∨ x.f0 = 17) →
        Grows e e2 ∧ (m ≤ 6 → e.length < e2.length ∧ Seg e2 e.length (e2.length - 1)) ∧ (7 ≤ m → ∀ a, a < e.length → Seg e a (e.length - 1) → Seg e2 a (e2.length - 1)) := by
      intro n x h hm hx ho
      simp only [Option.some.injEq, Prod.mk.injEq] at h
      obtain ⟨_, rfl⟩ := h
      exact ⟨Grows.snoc hx, fun _ => ⟨by simp, seg_leaf e ho⟩, fun h7 => by omega⟩
    simp only [pa] at h
    by_cases h6 : m = 6
    · rw [if_pos h6] at h
      by_cases a1 : (nextT l i).f0 = 3
      · rw [if_pos a1] at h
        have hi := kind_lt (l := l) (i := i) (by rw [a1]; decide)
        exact fin h h6 (.lit _ (Or.inl ⟨rfl, rfl⟩) (fun _ => (hl i hi).1 a1)) (Or.inl rfl)
      rw [if_neg a1] at h
      by_cases a2 : (nextT l i).f0 = 4
      · rw [if_pos a2] at h
        have hi := kind_lt (l := l) (i := i) (by rw [a2]; decide)
        exact fin h h6 (.lit _ (Or.inr (Or.inr ⟨rfl, rfl, (hl i hi).2.1 a2⟩)) (fun h => by cases h)) (Or.inl rfl)
      rw [if_neg a2] at h
      by_cases a3 : isT (nextT l i) [⟨#[116, 114, 117, 101]⟩, ⟨#[102, 97, 108, 115, 101]⟩] = true
      · rw [if_pos a3] at h
        exact fin h h6 (.lit _ (truth_ok _) (fun h => by rw [truth_kind] at h; cases h)) (Or.inl rfl)
      rw [if_neg a3] at h
      by_cases a4 : isT (nextT l i) [⟨#[105, 110]⟩] = true
      · rw [if_pos a4] at h
        by_cases b1 : isT (nextT l (i + 1)) [⟨#[40]⟩] = true
        · rw [if_pos b1] at h
          by_cases b2 : L.nameT (nextT l (i + 1 + 1)) = true
          · rw [if_pos b2] at h
            by_cases b3 : isT (nextT l (i + 1 + 1 + 1)) [⟨#[41]⟩] = true
            · rw [if_pos b3] at h
              have hi := nameT_lt b2
              exact fin h h6 (.name 17 _ (Or.inr rfl) (lname_ok (hl _ hi) b2)) (Or.inr (Or.inr rfl))
            · rw [if_neg b3] at h; simp at h
          · rw [if_neg b2] at h; simp at h
        · rw [if_neg b1] at h; simp at h
      rw [if_neg a4] at h
      by_cases a5 : isT (nextT l i) [⟨#[40]⟩] = true
      · rw [if_pos a5] at h
        obtain ⟨r, hr, h⟩ := Option.bind_eq_some_iff.1 h
        cases r with
        | none => simp at h
        | some p =>
          obtain ⟨i3, e3⟩ := p
          simp only at h
          by_cases b1 : isT (nextT l i3) [⟨#[41]⟩] = true
          · rw [if_pos b1] at h
            have := ih 0 (i + 1) e i3 e3 hr (by omega)
            simp only [Option.some.injEq, Prod.mk.injEq] at h
            obtain ⟨rfl, rfl⟩ := h
            exact ⟨this.1, fun _ => this.2.1 (by omega), fun h7 => by omega⟩
          · rw [if_neg b1] at h; simp at h
      rw [if_neg a5] at h
      by_cases a6 : L.nameT (nextT l i) = true
      · rw [if_pos a6] at h
        have hi := nameT_lt a6
        exact fin h h6 (.name 16 _ (Or.inl rfl) (lname_ok (hl _ hi) a6)) (Or.inr (Or.inl rfl))
      · rw [if_neg a6] at h; simp at h
    rw [if_neg h6] at h
    by_cases h5 : m = 5
    · rw [if_pos h5] at h
      have hun : ∀ (op : Int), (op = 1 ∨ op = 2) → ((pa k l 5 (i + 1) e).bind fun r => (match r with | none => some none | some (i2, e2) => some (some (i2, e2 ++ [nodeO op ((e2.length : Int) - 1) 0])))) = some (some (i2, e2)) →
          Grows e e2 ∧ (m ≤ 6 → e.length < e2.length ∧ Seg e2 e.length (e2.length - 1)) ∧ (7 ≤ m → ∀ a, a < e.length → Seg e a (e.length - 1) → Seg e2 a (e2.length - 1)) := by
        intro op ho h
        obtain ⟨r, hr, h⟩ := Option.bind_eq_some_iff.1 h
        cases r with
        | none => simp at h
        | some p =>
          obtain ⟨i3, e3⟩ := p
          obtain ⟨g1, g2, _⟩ := ih 5 (i + 1) e i3 e3 hr (by omega)
          obtain ⟨g3, g4⟩ := g2 (by omega)
          simp only [Option.some.injEq, Prod.mk.injEq] at h
          obtain ⟨rfl, rfl⟩ := h
          exact ⟨g1.trans (Grows.snoc (.one op ho (by omega))), fun _ => ⟨by simp; omega, seg_one ho g4⟩, fun h7 => by omega⟩
      by_cases a1 : isT (nextT l i) [⟨#[110, 111, 116]⟩] = true
      · rw [if_pos a1] at h
        exact hun 1 (Or.inl rfl) h
      rw [if_neg a1] at h
      by_cases a2 : isT (nextT l i) [⟨#[45]⟩] = true
      · rw [if_pos a2] at h
        exact hun 2 (Or.inr rfl) h
      rw [if_neg a2] at h
      obtain ⟨g1, g2, _⟩ := ih 6 i e i2 e2 h (by omega)
      exact ⟨g1, fun _ => g2 (by omega), fun h7 => by omega⟩
    rw [if_neg h5] at h
    by_cases hm : m < 5
    · rw [if_pos hm] at h
      obtain ⟨r, hr, h⟩ := Option.bind_eq_some_iff.1 h
      cases r with
      | none => simp at h
      | some p =>
        obtain ⟨i3, e3⟩ := p
        obtain ⟨g1, g2, _⟩ := ih (m + 1) i e i3 e3 hr (by omega)
        obtain ⟨g3, g4⟩ := g2 (by omega)
        obtain ⟨k1, _, k3⟩ := ih (m + 7) i3 e3 i2 e2 h (by omega)
        have := k1.len
        exact ⟨g1.trans k1, fun _ => ⟨by omega, k3 (by omega) _ g3 g4⟩, fun h7 => by omega⟩
    rw [if_neg hm] at h
    cases ho : opIn (levAt (m - 7)).signs (levAt (m - 7)).ops (nextT l i) with
    | none =>
      rw [ho] at h
      simp only [Option.some.injEq, Prod.mk.injEq] at h
      obtain ⟨rfl, rfl⟩ := h
      exact ⟨Grows.refl _, fun h => by omega, fun _ a _ s => s⟩
    | some o =>
      rw [ho] at h
      have hil := opIn_lt ho
      have hop := lev_ops _ o (opIn_mem _ _ _ _ ho)
      obtain ⟨r, hr, h⟩ := Option.bind_eq_some_iff.1 h
      cases r with
      | none => simp at h
      | some p =>
        obtain ⟨i3, e3⟩ := p
        have h11 : m - 7 < 5 := by
          by_cases h : m - 7 < 5
          · exact h
          · have : levAt (m - 7) = ⟨[], [], false⟩ := by
              unfold levAt
              rw [List.getD_eq_getElem?_getD, List.getElem?_eq_none (by show 5 ≤ m - 7; omega)]; rfl
            rw [this] at ho
            simp [opIn] at ho
        have h7 : 7 ≤ m := by omega
        have h0 := hne h7
        obtain ⟨g1, g2, _⟩ := ih (m - 7 + 1) (i + 1) e i3 e3 hr (by omega)
        obtain ⟨g3, g4⟩ := g2 (by omega)
        simp only at h
        have G : Grows e (e3 ++ [nodeO o ((e.length : Int) - 1) ((e3.length : Int) - 1)]) := g1.trans (Grows.snoc (.two o _ hop (by omega) (by omega)))
        by_cases hon : (levAt (m - 7)).once = true
        · rw [if_pos hon] at h
          simp only [Option.some.injEq, Prod.mk.injEq] at h
          obtain ⟨rfl, rfl⟩ := h
          exact ⟨G, fun h => by omega, fun _ a ha s => seg_two hop g1.1 ha s g4⟩
        · rw [if_neg hon] at h
          obtain ⟨k1, _, k3⟩ := ih m i3 _ i2 e2 h (fun _ => by simp)
          exact ⟨G.trans k1, fun h => by omega, fun h7 a ha s => k3 h7 a (by have := g1.len; simp; omega) (seg_two hop g1.1 ha s g4)⟩
def rank (m : Nat) : Nat := if m < 7 then 7 - m else 0
theorem pa_total (l : List S32) : ∀ (n m i : Nat) (e : List S156), (l.length - i) * 8 + rank m < n → m ≤ 11 → i ≤ l.length → ∃ r, Ev (fun k => pa k l m i e) r := by
  intro n
  induction n with
  | zero => intro m i e h; omega
  | succ n ih =>
    intro m i e h hm hi
    suffices hx : ∃ r, Ev (fun k => pa (k + 1) l m i e) r by
      obtain ⟨r, hr⟩ := hx
      exact ⟨r, Ev.succ hr⟩
    simp only [pa]
    by_cases h6 : m = 6
    · have hr : rank m = 1 := by rw [h6]; rfl
      by_cases a1 : (nextT l i).f0 = 3
      · exact ⟨_, Ev.pos h6 (Ev.pos a1 (Ev.some rfl))⟩
      by_cases a2 : (nextT l i).f0 = 4
      · exact ⟨_, Ev.pos h6 (Ev.neg a1 (Ev.pos a2 (Ev.some rfl)))⟩
      by_cases a3 : isT (nextT l i) [⟨#[116, 114, 117, 101]⟩, ⟨#[102, 97, 108, 115, 101]⟩] = true
      · exact ⟨_, Ev.pos h6 (Ev.neg a1 (Ev.neg a2 (Ev.pos a3 (Ev.some rfl))))⟩
      by_cases a4 : isT (nextT l i) [⟨#[105, 110]⟩] = true
      · by_cases b1 : isT (nextT l (i + 1)) [⟨#[40]⟩] = true
        · by_cases b2 : L.nameT (nextT l (i + 1 + 1)) = true
          · by_cases b3 : isT (nextT l (i + 1 + 1 + 1)) [⟨#[41]⟩] = true
            · exact ⟨_, Ev.pos h6 (Ev.neg a1 (Ev.neg a2 (Ev.neg a3 (Ev.pos a4 (Ev.pos b1 (Ev.pos b2 (Ev.pos b3 (Ev.some rfl))))))))⟩
            · exact ⟨_, Ev.pos h6 (Ev.neg a1 (Ev.neg a2 (Ev.neg a3 (Ev.pos a4 (Ev.pos b1 (Ev.pos b2 (Ev.neg b3 (Ev.some rfl))))))))⟩
          · exact ⟨_, Ev.pos h6 (Ev.neg a1 (Ev.neg a2 (Ev.neg a3 (Ev.pos a4 (Ev.pos b1 (Ev.neg b2 (Ev.some rfl)))))))⟩
        · exact ⟨_, Ev.pos h6 (Ev.neg a1 (Ev.neg a2 (Ev.neg a3 (Ev.pos a4 (Ev.neg b1 (Ev.some rfl))))))⟩
      by_cases a5 : isT (nextT l i) [⟨#[40]⟩] = true
      · have := isT_lt a5
        obtain ⟨r, hr⟩ := ih 0 (i + 1) e (by have : rank 0 = 7 := rfl; omega) (by omega) (by omega)
        have key : ∃ s, Ev (fun k => (pa k l 0 (i + 1) e).bind fun r => (match r with | none => some none | some (i2, e2) => if isT (nextT l i2) [⟨#[41]⟩] = true then some (some (i2 + 1, e2)) else some none)) s := by
          cases r with
          | none => exact ⟨none, Ev.bind hr (Ev.some rfl)⟩
          | some p =>
            by_cases b1 : isT (nextT l p.1) [⟨#[41]⟩] = true
            · exact ⟨some (p.1 + 1, p.2), Ev.bind hr (Ev.const fun k => if_pos b1)⟩
            · exact ⟨none, Ev.bind hr (Ev.const fun k => if_neg b1)⟩
        obtain ⟨s, hs⟩ := key
        exact ⟨s, Ev.pos h6 (Ev.neg a1 (Ev.neg a2 (Ev.neg a3 (Ev.neg a4 (Ev.pos a5 hs)))))⟩
      by_cases a6 : L.nameT (nextT l i) = true
      · exact ⟨_, Ev.pos h6 (Ev.neg a1 (Ev.neg a2 (Ev.neg a3 (Ev.neg a4 (Ev.neg a5 (Ev.pos a6 (Ev.some rfl)))))))⟩
      · exact ⟨_, Ev.pos h6 (Ev.neg a1 (Ev.neg a2 (Ev.neg a3 (Ev.neg a4 (Ev.neg a5 (Ev.neg a6 (Ev.some rfl)))))))⟩
    by_cases h5 : m = 5
    · have hr : rank m = 2 := by rw [h5]; rfl
      have hun : ∀ (op : Int), i < l.length → ∃ s, Ev (fun k => (pa k l 5 (i + 1) e).bind fun r => (match r with | none => some none | some (i2, e2) => some (some (i2, e2 ++ [nodeO op ((e2.length : Int) - 1) 0])))) s := by
        intro op hil
        obtain ⟨r, hr⟩ := ih 5 (i + 1) e (by have : rank 5 = 2 := rfl; omega) (by omega) (by omega)
        cases r with
        | none => exact ⟨none, Ev.bind hr (Ev.some rfl)⟩
        | some p => exact ⟨some (p.1, p.2 ++ [nodeO op ((p.2.length : Int) - 1) 0]), Ev.bind hr (Ev.const fun k => rfl)⟩
      by_cases a1 : isT (nextT l i) [⟨#[110, 111, 116]⟩] = true
      · obtain ⟨s, hs⟩ := hun 1 (isT_lt a1)
        exact ⟨s, Ev.neg h6 (Ev.pos h5 (Ev.pos a1 hs))⟩
      by_cases a2 : isT (nextT l i) [⟨#[45]⟩] = true
      · obtain ⟨s, hs⟩ := hun 2 (isT_lt a2)
        exact ⟨s, Ev.neg h6 (Ev.pos h5 (Ev.neg a1 (Ev.pos a2 hs)))⟩
      obtain ⟨s, hs⟩ := ih 6 i e (by have : rank 6 = 1 := rfl; omega) (by omega) hi
      exact ⟨s, Ev.neg h6 (Ev.pos h5 (Ev.neg a1 (Ev.neg a2 hs)))⟩
    by_cases h4 : m < 5
    · have hr : rank m = 7 - m := if_pos (by omega)
      have hr1 : rank (m + 1) = 7 - (m + 1) := if_pos (by omega)
      have hr2 : rank (m + 7) = 0 := if_neg (by omega)
      obtain ⟨r, hr⟩ := ih (m + 1) i e (by omega) (by omega) hi
      cases r with
      | none => exact ⟨none, Ev.neg h6 (Ev.neg h5 (Ev.pos h4 (Ev.bind hr (Ev.some rfl))))⟩
      | some p =>
        obtain ⟨K, hK⟩ := hr
        have := pa_inv K l (m + 1) i e p.1 p.2 (hK K (Nat.le_refl _)) hi
        obtain ⟨s, hs⟩ := ih (m + 7) p.1 p.2 (by have : (l.length - p.1) * 8 ≤ (l.length - i) * 8 := Nat.mul_le_mul_right _ (by omega); omega) (by omega) (by omega)
        exact ⟨s, Ev.neg h6 (Ev.neg h5 (Ev.pos h4 (Ev.bind ⟨K, hK⟩ hs)))⟩
    · cases ho : opIn (levAt (m - 7)).signs (levAt (m - 7)).ops (nextT l i) with
      | none => exact ⟨some (i, e), Ev.neg h6 (Ev.neg h5 (Ev.neg h4 (Ev.some rfl)))⟩
      | some o =>
        have hil := opIn_lt ho
        have hrm : rank (m - 7 + 1) ≤ 7 := by unfold rank; split <;> omega
        have hr0 : rank m = 0 := if_neg (by omega)
        obtain ⟨r, hr⟩ := ih (m - 7 + 1) (i + 1) e (by omega) (by omega) (by omega)
        cases r with
        | none => exact ⟨none, Ev.neg h6 (Ev.neg h5 (Ev.neg h4 (Ev.bind hr (Ev.some rfl))))⟩
        | some p =>
          by_cases hon : (levAt (m - 7)).once = true
          · exact ⟨_, Ev.neg h6 (Ev.neg h5 (Ev.neg h4 (Ev.bind hr (Ev.pos hon (Ev.some rfl)))))⟩
          · obtain ⟨K, hK⟩ := hr
            have := pa_inv K l (m - 7 + 1) (i + 1) e p.1 p.2 (hK K (Nat.le_refl _)) (by omega)
            obtain ⟨s, hs⟩ := ih m p.1 (p.2 ++ [nodeO o ((e.length : Int) - 1) ((p.2.length : Int) - 1)]) (by omega) hm (by omega)
            exact ⟨s, Ev.neg h6 (Ev.neg h5 (Ev.neg h4 (Ev.bind ⟨K, hK⟩ (Ev.neg hon hs))))⟩
theorem pa_ev (l : List S32) : ∃ r, Ev (fun k => pa k l 0 0 []) r := pa_total l _ 0 0 [] (Nat.lt_succ_self _) (by omega) (by omega)
theorem pathGo_two (L : List UInt8) : ∀ (f e : Nat) (k : Int) (e' : Nat), pathGo L f e 2 = some (k, e') → k = 2
  | 0, _, _, _, h => by simp [pathGo] at h
  | f + 1, e, k, e', h => by
    unfold pathGo at h
    split at h
    · split at h
      · cases h
      · exact pathGo_two L f _ k e' h
    · simp only [Option.some.injEq, Prod.mk.injEq] at h
      exact h.1.symm
theorem pathGo_one {L : List UInt8} {f e e' : Nat} (h : pathGo L f e 1 = some (1, e')) : e' = e := by
  cases f with
  | zero => simp [pathGo] at h
  | succ f =>
    unfold pathGo at h
    split at h
    · split at h
      · cases h
      · have := pathGo_two L f _ _ _ h
        omega
    · simp only [Option.some.injEq, Prod.mk.injEq] at h
      exact h.2.symm
theorem numFold_le : ∀ (l : List UInt8) (n r : Int), 0 ≤ n → n ≤ 9223372036854775807 → l.all isDigit = true → numFold l n = some r → 0 ≤ r ∧ r ≤ 9223372036854775807
  | [], n, r, h0, h1, _, h => by simp only [numFold, Option.some.injEq] at h; omega
  | c :: l, n, r, h0, h1, ha, h => by
    simp only [numFold] at h
    have hd := List.all_eq_true.1 ha c List.mem_cons_self
    have hd2 : 48 ≤ c.toNat ∧ c.toNat ≤ 57 := by unfold isDigit at hd; simpa using hd
    split at h
    · cases h
    · exact numFold_le l _ r (by omega) (by omega) (by rw [List.all_cons, Bool.and_eq_true] at ha; exact ha.2) h
theorem takeWhile_all_true {p : UInt8 → Bool} : ∀ (L : List UInt8), (L.takeWhile p).all p = true
  | [] => rfl
  | c :: L => by
    rw [List.takeWhile_cons]
    split
    · rename_i h; rw [List.all_cons, h, takeWhile_all_true L]; rfl
    · rfl
theorem cut_all (L : List UInt8) : cut L 0 L.length = L := by unfold cut; simp
theorem lex_word (t : List UInt8) (h0 : 0 < t.length) (hs : smallB (t.getD 0 0) = true) (ha : t.all innerB = true) (hl : t.length ≤ 16) : lex t = ([⟨1, t, 0, 0⟩], 0, 0) := by
  have hb : blankB (t.getD 0 0) = false := by
    unfold smallB at hs; unfold blankB
    simp only [Bool.and_eq_true, decide_eq_true_eq] at hs
    exact beq_eq_false_iff_ne.2 (by omega)
  have hp := (pend_all (p := innerB) t).2 ha
  have ht : tokenAt t 0 = .ok (1, t, 0, t.length) := by
    unfold tokenAt
    rw [if_pos hs, hp, if_neg (by omega)]
    have : pathGo t (t.length + 1) t.length 1 = some (1, t.length) := by
      unfold pathGo
      rw [if_neg (by omega)]
    rw [this]
    dsimp only
    rw [if_neg (by omega), cut_all]
  obtain ⟨n, hn⟩ : ∃ n, t.length = n + 1 := ⟨t.length - 1, by omega⟩
  unfold lex
  rw [lexGo, pend_stop h0 hb, if_neg (by omega), if_neg (by simp), ht]
  dsimp only
  rw [hn, lexGo, pend_end (by omega), if_pos (by omega)]
  rfl
theorem cut_get0 {L : List UInt8} {i e : Nat} (h : i < e) (he : e ≤ L.length) : (cut L i e).getD 0 0 = L.getD i 0 := by
  unfold cut
  simp only [List.getD_eq_getElem?_getD]
  rw [List.getElem?_drop, Nat.add_zero, List.getElem?_take_of_lt h]
theorem cut_inner {p : UInt8 → Bool} (L : List UInt8) (i : Nat) : (cut L i (pend p L i)).all p = true := by rw [cut_pend]; exact takeWhile_all_true _
theorem tokenAt_ok {L : List UInt8} {i : Nat} {k : Int} {t : List UInt8} {n : Int} {e : Nat} (hi : i < L.length) (h : tokenAt L i = .ok (k, t, n, e)) (p : Nat) : TokOk (Tk.s32 ⟨k, t, n, p⟩) := by
  unfold tokenAt at h
  split at h
  · rename_i hs
    split at h
    · cases h
    · rename_i h16
      split at h
      · cases h
      · rename_i k' e' hp
        split at h
        · cases h
        · simp only [Except.ok.injEq, Prod.mk.injEq] at h
          obtain ⟨rfl, rfl, rfl, rfl⟩ := h
          have hk : k' = 1 ∨ k' = 2 := by
            unfold pathGo at hp
            split at hp
            · split at hp
              · cases hp
              · exact Or.inr (pathGo_two _ _ _ _ _ hp)
            · simp only [Option.some.injEq, Prod.mk.injEq] at hp
              exact Or.inl hp.1.symm
          refine ⟨fun h => ?_, fun h => ?_, fun h hm => ?_⟩
          · replace h : k' = 3 := h
            omega
          · replace h : k' = 4 := h
            omega
          · replace h : k' = 1 := h
            subst h
            have he := pathGo_one hp
            subst he
            have h2 := pend_step (p := innerB) hi (small_inner hs)
            have h3 := le_pend innerB L (i + 1)
            have h4 := pend_le (p := innerB) (L := L) (i := i) (by omega)
            replace hm : ¬ (cut L i (pend innerB L i)) ∈ meanWords := hm
            show nameT ⟨(cut L i (pend innerB L i)).toArray⟩ = true
            unfold nameT
            have hlen : (cut L i (pend innerB L i)).length = pend innerB L i - i := cut_length h4
            have hw := lex_word (cut L i (pend innerB L i)) (by omega) (by rw [cut_get0 (by omega) h4]; exact hs) (cut_inner L i) (by omega)
            dsimp only
            rw [hw]
            simp [hm]
  · split at h
    · split at h
      · cases h
      · split at h
        · cases h
        · rename_i r hn
          simp only [Except.ok.injEq, Prod.mk.injEq] at h
          obtain ⟨rfl, rfl, rfl, rfl⟩ := h
          exact ⟨fun _ => numFold_le _ 0 _ (by omega) (by omega) (cut_inner L i) hn, fun h => absurd (show (3 : Int) = 4 from h) (by decide), fun h => absurd (show (3 : Int) = 1 from h) (by decide)⟩
    · split at h
      · split at h
        · cases h
        · rename_i hnl
          split at h
          · cases h
          · rename_i h48
            split at h
            · rename_i hpl
              simp only [Except.ok.injEq, Prod.mk.injEq] at h
              obtain ⟨rfl, rfl, rfl, rfl⟩ := h
              refine ⟨fun h => absurd (show (4 : Int) = 3 from h) (by decide), fun _ => ?_, fun h => absurd (show (4 : Int) = 1 from h) (by decide)⟩
              show ((cut L (i + 1) (pend noQuoteB L (i + 1))).all val_Plain.ok && decide ((⟨(cut L (i + 1) (pend noQuoteB L (i + 1))).toArray⟩ : ByteArray).size ≤ 48)) = true
              rw [hpl, size_mk, cut_length (by omega), decide_eq_true (by omega)]; rfl
            · cases h
      · split at h
        · simp only [Except.ok.injEq, Prod.mk.injEq] at h
          obtain ⟨rfl, rfl, rfl, rfl⟩ := h
          exact ⟨fun h => absurd (show (5 : Int) = 3 from h) (by decide), fun h => absurd (show (5 : Int) = 4 from h) (by decide), fun h => absurd (show (5 : Int) = 1 from h) (by decide)⟩
        · cases h
theorem lexGo_all (P : Tk → Prop) (L : List UInt8) (hP : ∀ (i : Nat) (k : Int) (t : List UInt8) (n : Int) (e p : Nat), i < L.length → tokenAt L i = .ok (k, t, n, e) → P ⟨k, t, n, p⟩) : ∀ (f i : Nat) (out : List Tk), (∀ t ∈ out, P t) → ∀ t ∈ (lexGo L f i out).1, P t
  | 0, i, out, ho => by simp [lexGo]
  | f + 1, i, out, ho => by
    simp only [lexGo]
    split
    · exact ho
    · rename_i hlt
      split
      · simp
      · cases ht : tokenAt L (pend blankB L i) with
        | error e => simp
        | ok x =>
          obtain ⟨k, t, n, e⟩ := x
          dsimp only
          refine lexGo_all P L hP f e _ (fun t' h => ?_)
          rcases List.mem_append.1 h with h | h
          · exact ho _ h
          · rw [List.mem_singleton.1 h]
            exact hP _ k t n e _ (by omega) ht
theorem lex_tokOk (L : List UInt8) : ∀ t ∈ (lex L).1, TokOk t.s32 := lexGo_all (fun t => TokOk t.s32) L (fun i k t n e p hi h => tokenAt_ok hi h p) _ _ _ (by simp)
theorem lex_nextT (L : List UInt8) (i : Nat) (h : i < ((lex L).1.map Tk.s32).length) : TokOk (nextT ((lex L).1.map Tk.s32) i) := by
  rw [nextT_at h, List.getElem_map]
  exact lex_tokOk L _ (List.getElem_mem _)
end Go.Proofs.YtbngfhlciebeeaaDoor.Sp
end
section
namespace Go.Proofs.YtbngfhlciebeeaaDoor.L
set_option linter.unusedVariables false
set_option linter.unusedSimpArgs false
open Go.RowKit Go.Proofs.YtbngfhlciebeeaaDoorW.PrintWords Go.Proofs.YtbngfhlciebeeaaDoorW.PrintLast Go.Proofs.YtbngfhlciebeeaaDoorW.PrintMore
theorem IsP.row {w0 W : World} {g : Nat} {A : Option Addr} {c : Nat} {l : List S32} {i : Int} {e : List S156} (h : IsP w0 W g A c l i e) : ∃ A2 c2, W.cell? ⟨g, 2, none⟩ = some (.slice A2 e.length c2) := by
  obtain ⟨ve, q, _, r, _⟩ := h
  obtain ⟨A2, c2, rfl⟩ := Kd.R_slice r
  exact ⟨A2, c2, blk_cell q 2⟩
def Par (f : FuncId) (args : List Value) (w0 : World) (g : Nat) (A : Option Addr) (c : Nat) (l : List S32) (i : Nat) (e : List S156) (r : Option (Nat × List S156)) : Prop :=
  ∀ w, IsP w0 w g A c l (i : Int) e → Calls Tryd.prog f (Value.pointer (some ⟨g, 0, none⟩) :: args).toArray w (PaPost w0 w g A c l r)
def unR (op : Int) : Option (Nat × List S156) → Option (Nat × List S156)
  | none => none
  | some (i2, e2) => some (i2, e2 ++ [nodeO op ((e2.length : Int) - 1) 0])
section
variable {w0 w : World} {g : Nat} {A : Option Addr} {c : Nat} {l : List S32} {i i2 : Nat} {e e2 : List S156} {r : Option (Nat × List S156)}
set_option maxHeartbeats 4000000 in
set_option maxRecDepth 100000 in
theorem unary_atom (h1 : isT (nextT l i) [⟨#[110, 111, 116]⟩] = false) (h2 : isT (nextT l i) [⟨#[45]⟩] = false) (hr : Par 156 [] w0 g A c l i e r) : Par 138 [] w0 g A c l i e r := by
  intro w h
  have H := Aside0.mk h
  have N1 := Aside0.mk h1
  have N2 := Aside0.mk h2
  have HR := Aside0.mk hr
  clear h h1 h2 hr
  go_enter Tryd.func138, Tryd.ntmps138
  go_wp2_with (go_at_call 155; refine (take_no H.out _ N1.out).mono ?_)
  rintro x w1 ⟨rfl, h_, k_⟩
  have H1 := Aside0.mk h_
  have K1 := Aside0.mk k_
  clear h_ k_
  go_wp2_with (go_at_call 155; refine (take_no H1.out _ N2.out).mono ?_)
  rintro x w2 ⟨rfl, h_, k_⟩
  have H2 := Aside0.mk h_
  have K2 := Aside0.mk (K1.out.trans k_)
  clear h_ k_
  cases r with
  | none =>
    go_wp2_with (go_at_call 156; refine (HR.out _ H2.out).mono ?_)
    rintro x w3 ⟨rfl, h_⟩
    have B3 := Aside0.mk h_
    clear h_
    go_wp2
    go_ret
    exact ⟨rfl, B3.out⟩
  | some p =>
    obtain ⟨i2, e2⟩ := p
    go_wp2_with (go_at_call 156; refine (HR.out _ H2.out).mono ?_)
    rintro x w3 ⟨rfl, h_, k_⟩
    have H3 := Aside0.mk h_
    have K3 := Aside0.mk (K2.out.trans k_)
    clear h_ k_
    go_wp2
    go_ret
    exact ⟨rfl, H3.out, K3.out⟩
set_option maxHeartbeats 4000000 in
set_option maxRecDepth 100000 in
theorem unary_not (h1 : isT (nextT l i) [⟨#[110, 111, 116]⟩] = true) (hr : Par 138 [] w0 g A c l (i + 1) e r) (hb : ∀ i2 e2, r = some (i2, e2) → e2.length ≤ 1000000) :
    Par 138 [] w0 g A c l i e (unR 1 r) := by
  intro w h
  have H := Aside0.mk h
  have N1 := Aside0.mk h1
  have HR := Aside0.mk hr
  clear h h1 hr
  go_enter Tryd.func138, Tryd.ntmps138
  go_wp2_with (go_at_call 155; refine (take_yes H.out _ N1.out).mono ?_)
  rintro x w1 ⟨rfl, h_, k_⟩
  have H1 := Aside0.mk h_
  have K1 := Aside0.mk k_
  clear h_ k_
  cases r with
  | none =>
    clear hb
    go_wp2_with (go_at_call 138; refine (HR.out _ H1.out).mono ?_)
    rintro x w3 ⟨rfl, h_⟩
    have B3 := Aside0.mk h_
    clear h_
    go_wp2
    go_ret
    exact ⟨rfl, B3.out⟩
  | some p =>
    obtain ⟨i2, e2⟩ := p
    have hl2 := hb i2 e2 rfl
    clear hb
    go_wp2_with (go_at_call 138; refine (HR.out _ H1.out).mono ?_)
    rintro x w3 ⟨rfl, h_, k_⟩
    have H3 := Aside0.mk h_
    have K3 := Aside0.mk (K1.out.trans k_)
    clear h_ k_
    obtain ⟨A2, c2, q2⟩ := IsP.row H3.out
    go_wp2_with (go_at_call 140; refine (add_calls H3.out (nodeO 1 ((e2.length : Int) - 1) 0) hl2).mono ?_)
    rintro x w4 ⟨rfl, h_, k_⟩
    have H4 := Aside0.mk h_
    have K4 := Aside0.mk (K3.out.trans k_)
    clear h_ k_
    go_wp2
    go_ret
    exact ⟨rfl, H4.out, K4.out⟩
set_option maxHeartbeats 4000000 in
set_option maxRecDepth 100000 in
theorem unary_neg (h1 : isT (nextT l i) [⟨#[110, 111, 116]⟩] = false) (h2 : isT (nextT l i) [⟨#[45]⟩] = true) (hr : Par 138 [] w0 g A c l (i + 1) e r) (hb : ∀ i2 e2, r = some (i2, e2) → e2.length ≤ 1000000) :
    Par 138 [] w0 g A c l i e (unR 2 r) := by
  intro w h
  have H := Aside0.mk h
  have N1 := Aside0.mk h1
  have N2 := Aside0.mk h2
  have HR := Aside0.mk hr
  clear h h1 h2 hr
  go_enter Tryd.func138, Tryd.ntmps138
  go_wp2_with (go_at_call 155; refine (take_no H.out _ N1.out).mono ?_)
  rintro x w0_ ⟨rfl, h_, k_⟩
  have H0 := Aside0.mk h_
  have K0 := Aside0.mk k_
  clear h_ k_
  go_wp2_with (go_at_call 155; refine (take_yes H0.out _ N2.out).mono ?_)
  rintro x w1 ⟨rfl, h_, k_⟩
  have H1 := Aside0.mk h_
  have K1 := Aside0.mk (K0.out.trans k_)
  clear h_ k_
  cases r with
  | none =>
    clear hb
    go_wp2_with (go_at_call 138; refine (HR.out _ H1.out).mono ?_)
    rintro x w3 ⟨rfl, h_⟩
    have B3 := Aside0.mk h_
    clear h_
    go_wp2
    go_ret
    exact ⟨rfl, B3.out⟩
  | some p =>
    obtain ⟨i2, e2⟩ := p
    have hl2 := hb i2 e2 rfl
    clear hb
    go_wp2_with (go_at_call 138; refine (HR.out _ H1.out).mono ?_)
    rintro x w3 ⟨rfl, h_, k_⟩
    have H3 := Aside0.mk h_
    have K3 := Aside0.mk (K1.out.trans k_)
    clear h_ k_
    obtain ⟨A2, c2, q2⟩ := IsP.row H3.out
    go_wp2_with (go_at_call 140; refine (add_calls H3.out (nodeO 2 ((e2.length : Int) - 1) 0) hl2).mono ?_)
    rintro x w4 ⟨rfl, h_, k_⟩
    have H4 := Aside0.mk h_
    have K4 := Aside0.mk (K3.out.trans k_)
    clear h_ k_
    go_wp2
    go_ret
    exact ⟨rfl, H4.out, K4.out⟩
set_option maxHeartbeats 4000000 in
set_option maxRecDepth 100000 in
theorem binary_unary (hr : Par 138 [] w0 g A c l i e r) : Par 115 [.int .i64 5] w0 g A c l i e r := by
  intro w h
  have H := Aside0.mk h
  have HR := Aside0.mk hr
  clear h hr
  go_enter Tryd.func115, Tryd.ntmps115
  go_wp2_with (go_at_call 137; refine (levels_calls _).mono ?_)
  rintro x w1 ⟨a, rfl, ha, hb⟩
  have H1 := Aside0.mk (IsP.below H.out hb)
  have K1 := Aside0.mk (KeepT.of_below hb)
  clear ha hb
  cases r with
  | none =>
    go_wp2_with (go_at_call 138; refine (HR.out _ H1.out).mono ?_)
    rintro x w3 ⟨rfl, h_⟩
    have B3 := Aside0.mk h_
    clear h_
    go_wp2
    go_ret
    exact ⟨rfl, B3.out⟩
  | some p =>
    obtain ⟨i2, e2⟩ := p
    go_wp2_with (go_at_call 138; refine (HR.out _ H1.out).mono ?_)
    rintro x w3 ⟨rfl, h_, k_⟩
    have H3 := Aside0.mk h_
    have K3 := Aside0.mk (K1.out.trans k_)
    clear h_ k_
    go_wp2
    go_ret
    exact ⟨rfl, H3.out, K3.out⟩
theorem lev_at {W : World} {a m : Nat} (h : HasLev W a) (hm : m < 5) : ∃ sb ob, W.cell? ⟨a, m * 3, none⟩ = some (.slice (some ⟨sb, 0, none⟩) (levAt m).signs.length (levAt m).signs.length) ∧ W.cell? ⟨a, m * 3 + 1, none⟩ = some (.slice (some ⟨ob, 0, none⟩) (levAt m).ops.length (levAt m).ops.length) ∧ W.cell? ⟨a, m * 3 + 2, none⟩ = some (.bool (levAt m).once) ∧
    W.heap[sb]? = some (.cells ((levAt m).signs.map Value.string).toArray 9 (0, 0)) ∧ W.heap[ob]? = some (.cells ((levAt m).ops.map (Value.int .i64)).toArray 3 (0, 0)) := by
  obtain ⟨s0, o0, s1, o1, s2, o2, s3, o3, s4, o4, h, p0, q0, p1, q1, p2, q2, p3, q3, p4, q4⟩ := h
  have hc := fun j => blk_cell h j
  have hm5 : m = 0 ∨ m = 1 ∨ m = 2 ∨ m = 3 ∨ m = 4 := by omega
  rcases hm5 with rfl | rfl | rfl | rfl | rfl
  · exact ⟨s0, o0, hc 0, hc 1, hc 2, p0, q0⟩
  · exact ⟨s1, o1, hc 3, hc 4, hc 5, p1, q1⟩
  · exact ⟨s2, o2, hc 6, hc 7, hc 8, p2, q2⟩
  · exact ⟨s3, o3, hc 9, hc 10, hc 11, p3, q3⟩
  · exact ⟨s4, o4, hc 12, hc 13, hc 14, p4, q4⟩
theorem lev_facts {m : Nat} (hm : m < 5) : (levAt m).signs.length = (levAt m).ops.length ∧ (levAt m).signs.length ≤ 1000000 ∧ ∀ o ∈ (levAt m).ops, o ≠ 0 := by
  have hm5 : m = 0 ∨ m = 1 ∨ m = 2 ∨ m = 3 ∨ m = 4 := by omega
  rcases hm5 with rfl | rfl | rfl | rfl | rfl <;> exact ⟨by decide, by decide, by decide⟩
theorem opIn_mem : ∀ {ss : List ByteArray} {os : List Int} {t : S32} {o : Int}, opIn ss os t = some o → o ∈ os
  | [], _, _, _, h => by simp [opIn] at h
  | s :: ss, [], _, _, h => by simp [opIn] at h
  | s :: ss, o :: os, t, o', h => by
    simp only [opIn] at h
    by_cases hs : isT t [s] = true
    · rw [if_pos hs] at h
      rw [Option.some.inj h]; exact List.mem_cons_self
    · rw [if_neg hs] at h
      exact List.mem_cons_of_mem _ (opIn_mem h)
end
section
variable {w0 w : World} {g : Nat} {A : Option Addr} {c : Nat} {l : List S32} {i i2 : Nat} {e e2 : List S156} {r : Option (Nat × List S156)}
theorem op_none (h : IsP w0 w g A c l (i : Int) e) (sb ob m : Nat) (hm : m < 5) (hs : w.heap[sb]? = some (.cells ((levAt m).signs.map Value.string).toArray 9 (0, 0))) (ho : w.heap[ob]? = some (.cells ((levAt m).ops.map (Value.int .i64)).toArray 3 (0, 0))) (hn : opIn (levAt m).signs (levAt m).ops (nextT l i) = none) :
    Calls Tryd.prog 139 #[.pointer (some ⟨g, 0, none⟩), .agg #[.slice (some ⟨sb, 0, none⟩) (levAt m).signs.length (levAt m).signs.length, .slice (some ⟨ob, 0, none⟩) (levAt m).ops.length (levAt m).ops.length, .bool (levAt m).once]] w fun x w' => x = .returned (.int .i64 0) ∧ IsP w0 w' g A c l (i : Int) e ∧ KeepT w w' :=
  (op_calls h sb ob _ _ (lev_facts hm).1 (lev_facts hm).2.1 _ hs ho).mono fun x w' hx => by rw [hn] at hx; exact hx
theorem op_some {o : Int} (h : IsP w0 w g A c l (i : Int) e) (sb ob m : Nat) (hm : m < 5) (hs : w.heap[sb]? = some (.cells ((levAt m).signs.map Value.string).toArray 9 (0, 0))) (ho : w.heap[ob]? = some (.cells ((levAt m).ops.map (Value.int .i64)).toArray 3 (0, 0))) (hn : opIn (levAt m).signs (levAt m).ops (nextT l i) = some o) :
    Calls Tryd.prog 139 #[.pointer (some ⟨g, 0, none⟩), .agg #[.slice (some ⟨sb, 0, none⟩) (levAt m).signs.length (levAt m).signs.length, .slice (some ⟨ob, 0, none⟩) (levAt m).ops.length (levAt m).ops.length, .bool (levAt m).once]] w fun x w' => x = .returned (.int .i64 o) ∧ IsP w0 w' g A c l ((i + 1 : Nat) : Int) e ∧ KeepT w w' :=
  (op_calls h sb ob _ _ (lev_facts hm).1 (lev_facts hm).2.1 _ hs ho).mono fun x w' hx => by rw [hn] at hx; exact hx
theorem par_none {f : FuncId} {args : List Value} (h : Par f args w0 g A c l i e none) (hp : IsP w0 w g A c l (i : Int) e) : Calls Tryd.prog f (Value.pointer (some ⟨g, 0, none⟩) :: args).toArray w fun x w' => x = .returned (.bool false) ∧ Below w0.heap.size w0 w' := h w hp
theorem par_some {f : FuncId} {args : List Value} (h : Par f args w0 g A c l i e (some (i2, e2))) (hp : IsP w0 w g A c l (i : Int) e) : Calls Tryd.prog f (Value.pointer (some ⟨g, 0, none⟩) :: args).toArray w fun x w' => x = .returned (.bool true) ∧ IsP w0 w' g A c l (i2 : Int) e2 ∧ KeepT w w' := h w hp
end
theorem pa_loop {k : Nat} {l : List S32} {m i : Nat} {e : List S156} (hm : m < 5) : pa (k + 1) l (m + 7) i e = (match opIn (levAt m).signs (levAt m).ops (nextT l i) with | none => some (some (i, e)) | some o => (pa k l (m + 1) (i + 1) e).bind fun r => (match r with | none => some none | some (i2, e2) => if (levAt m).once = true then some (some (i2, e2 ++ [nodeO o ((e.length : Int) - 1) ((e2.length : Int) - 1)])) else pa k l (m + 7) i2 (e2 ++ [nodeO o ((e.length : Int) - 1) ((e2.length : Int) - 1)]))) := by
  simp only [pa]
  rw [if_neg (by omega), if_neg (by omega), if_neg (by omega), show m + 7 - 7 = m by omega]
  rfl
theorem pa_bin {k : Nat} {l : List S32} {m i : Nat} {e : List S156} (hm : m < 5) : pa (k + 1) l m i e = (pa k l (m + 1) i e).bind fun r => (match r with | none => some none | some (i2, e2) => pa k l (m + 7) i2 e2) := by
  simp only [pa]
  rw [if_neg (by omega), if_neg (by omega), if_pos hm]
  rfl
set_option maxHeartbeats 8000000 in
set_option maxRecDepth 100000 in
theorem binary_calls {w0 : World} {g : Nat} {A : Option Addr} {c : Nat} {l : List S32} (hll : l.length ≤ 1000000) (k m : Nat) (hm : m < 5)
    (hsub : ∀ j, j ≤ k → ∀ i e r, pa j l (m + 1) i e = some r → e.length ≤ i → i ≤ l.length → Par 115 [.int .i64 ((m : Int) + 1)] w0 g A c l i e r) (i : Nat) (e : List S156) (r : Option (Nat × List S156)) (hp : pa (k + 1) l m i e = some r) (he : e.length ≤ i) (hi : i ≤ l.length) :
    Par 115 [.int .i64 (m : Int)] w0 g A c l i e r := by
  intro w h
  rw [pa_bin hm] at hp
  obtain ⟨r1, h1, hp⟩ := Option.bind_eq_some_iff.1 hp
  have H := Aside0.mk h
  have S1 := Aside0.mk (hsub k (Nat.le_refl _) i e r1 h1 he hi)
  have HSUB := Aside0.mk hsub
  have hinv := Aside0.mk (fun i2 e2 (hr : r1 = some (i2, e2)) => pa_inv k l (m + 1) i e i2 e2 (by rw [h1, hr]) hi)
  have HE := Aside0.mk he
  have HP := Aside0.mk hp
  clear h hsub h1 he hp hi
  have b5 : ((m : Int) == 5) = false := beq_eq_false_iff_ne.2 (by omega)
  go_enter Tryd.func115, Tryd.ntmps115
  go_wp2_with (go_at_call 137; refine (levels_calls _).mono ?_)
  rintro x w1 ⟨a, rfl, ha, hb⟩
  have H1 := Aside0.mk (IsP.below H.out hb)
  have K1 := Aside0.mk (KeepT.of_below hb)
  have L1 := Aside0.mk ha
  clear ha hb H
  cases r1 with
  | none =>
    have hr := HP.out
    simp only [Option.some.injEq] at hr
    subst hr
    go_wp2_with (go_at_call 115; refine (par_none S1.out H1.out).mono ?_)
    rintro x w2 ⟨rfl, h_⟩
    have B2 := Aside0.mk h_
    clear h_
    go_wp2
    go_ret
    exact ⟨rfl, B2.out⟩
  | some p =>
    obtain ⟨i2, e2⟩ := p
    obtain ⟨v1, v2, v3⟩ := hinv.out i2 e2 rfl
    have he2 : e2.length ≤ i2 := by have := HE.out; omega
    clear hinv HE v1 v3
    go_wp2_with (go_at_call 115; refine (par_some S1.out H1.out).mono ?_)
    rintro x w2 ⟨rfl, h_, k_⟩
    have H2 := Aside0.mk h_
    have K2 := Aside0.mk (K1.out.trans k_)
    have L2 := Aside0.mk (L1.out.keep k_)
    clear h_ k_ H1 K1 L1 S1
    go_wp2
    go_loopg [6] k (fun kq v6 wr => ∃ (i3 : Nat) (e3 : List S156), Aside0 (pa kq l (m + 7) i3 e3 = some r) ∧ Aside0 (kq ≤ k) ∧ Aside0 (IsP w0 wr g A c l (i3 : Int) e3) ∧ Aside0 (KeepT w wr) ∧ Aside0 (HasLev wr a) ∧ Aside0 (e3.length ≤ i3 ∧ i3 ≤ l.length))
    case atStart => exact ⟨i2, e2, HP, ⟨Nat.le_refl _⟩, H2, K2, L2, ⟨he2, v2⟩⟩
    case round =>
      clear HP H2 K2 L2 he2 v2
      obtain ⟨i3, e3, HP, HK, H3, K3, L3, HV⟩ := hrel
      cases gk with
      | zero => exact absurd HP.out (by simp [pa])
      | succ k1 =>
        have hp := HP.out
        rw [pa_loop hm] at hp
        obtain ⟨hv1, hv2⟩ := HV.out
        obtain ⟨A3, c3, q3⟩ := IsP.row H3.out
        obtain ⟨sb, ob, l0, l1, l2, hs, ho⟩ := lev_at L3.out hm
        have HS := Aside0.mk hs
        have HO := Aside0.mk ho
        clear HP hs ho
        have b1 : decide (0 ≤ (m : Int)) = true := decide_eq_true (by omega)
        have b2 : decide ((m : Int) < 5) = true := decide_eq_true (by omega)
        cases hop : opIn (levAt m).signs (levAt m).ops (nextT l i3) with
        | none =>
          rw [hop] at hp
          simp only [Option.some.injEq] at hp
          subst hp
          have HN := Aside0.mk hop
          clear hop
          go_wp2_with (go_at_call 139; refine (op_none H3.out sb ob m hm HS.out HO.out HN.out).mono ?_)
          rintro x w4 ⟨rfl, h_, k_⟩
          have H4 := Aside0.mk h_
          have K4 := Aside0.mk (K3.out.trans k_)
          clear h_ k_
          go_wp2
          go_ret
          exact ⟨rfl, H4.out, K4.out⟩
        | some o =>
          rw [hop] at hp
          obtain ⟨r4, h4, hp⟩ := Option.bind_eq_some_iff.1 hp
          have ho0 : (o == 0) = false := beq_eq_false_iff_ne.2 ((lev_facts hm).2.2 o (opIn_mem hop))
          have hil := opIn_lt hop
          have S4 := Aside0.mk (HSUB.out k1 (by have := HK.out; omega) (i3 + 1) e3 r4 h4 (by omega) (by omega))
          have V4 := Aside0.mk (fun i4 e4 (hr : r4 = some (i4, e4)) => pa_inv k1 l (m + 1) (i3 + 1) e3 i4 e4 (by rw [h4, hr]) (by omega))
          have HN := Aside0.mk hop
          have HP := Aside0.mk hp
          clear hop h4 hp
          go_wp2_with (go_at_call 139; refine (op_some H3.out sb ob m hm HS.out HO.out HN.out).mono ?_)
          rintro x w4 rfl h_ k_
          have H4 : Aside0 (IsP w0 w4 g A c l ((i3 + 1 : Nat) : Int) e3) := ⟨h_⟩
          have K4 := Aside0.mk (K3.out.trans k_)
          have L4 := Aside0.mk (L3.out.keep k_)
          clear h_ k_ q3 l0 l1 l2
          cases r4 with
          | none =>
            have hr := HP.out
            simp only [Option.some.injEq] at hr
            subst hr
            go_wp2_with (go_at_call 115; refine (par_none S4.out H4.out).mono ?_)
            rintro x w5 ⟨rfl, h_⟩
            have B5 := Aside0.mk h_
            clear h_
            go_wp2
            go_ret
            exact ⟨rfl, B5.out⟩
          | some p4 =>
            obtain ⟨i4, e4⟩ := p4
            obtain ⟨v1, v2, v3⟩ := V4.out i4 e4 rfl
            have hl4 : e4.length ≤ 1000000 := by omega
            go_wp2_with (go_at_call 115; refine (par_some S4.out H4.out).mono ?_)
            rintro x w5 ⟨rfl, h_, k_⟩
            have H5 := Aside0.mk h_
            have K5 := Aside0.mk (K4.out.trans k_)
            have L5 := Aside0.mk (L4.out.keep k_)
            clear h_ k_
            obtain ⟨A5, c5, q5⟩ := IsP.row H5.out
            have V5 := Aside0.mk (show e4.length + 1 ≤ i4 ∧ i4 ≤ l.length by omega)
            clear v1 v2 v3 V4
            go_wp2_with (go_at_call 140; refine (add_calls H5.out (nodeO o ((e3.length : Int) - 1) ((e4.length : Int) - 1)) hl4).mono ?_)
            rintro x w6 ⟨rfl, h_, k_⟩
            have H6 := Aside0.mk h_
            have K6 := Aside0.mk (K5.out.trans k_)
            have L6 := Aside0.mk (L5.out.keep k_)
            clear h_ k_ q5
            obtain ⟨sb6, ob6, l0, l1, l2, hs, ho⟩ := lev_at L6.out hm
            clear l0 l1 hs ho
            have hp := HP.out
            cases hon : (levAt m).once with
            | true =>
              rw [hon] at l2
              rw [if_pos hon] at hp
              simp only [Option.some.injEq] at hp
              subst hp
              clear hon
              go_wp2
              go_ret
              exact ⟨rfl, H6.out, K6.out⟩
            | false =>
              rw [hon] at l2
              rw [if_neg (by rw [hon]; decide)] at hp
              have HP6 := Aside0.mk hp
              clear hon hp
              go_wp2
              go_roundg k1
              case rel => exact ⟨i4, _, HP6, ⟨by have := HK.out; omega⟩, H6, K6, L6, ⟨by have := V5.out; simp only [List.length_append, List.length_singleton]; omega, V5.out.2⟩⟩
              case measure => omega
theorem par_eq {f : FuncId} {args : List Value} {w0 : World} {g : Nat} {A : Option Addr} {c : Nat} {l : List S32} {i : Nat} {e : List S156} {r r' : Option (Nat × List S156)} (h : Par f args w0 g A c l i e r) (he : r = r') : Par f args w0 g A c l i e r' := he ▸ h
theorem atom_calls {w0 : World} {g : Nat} {A : Option Addr} {c : Nat} {l : List S32} (hll : l.length ≤ 1000000) (k : Nat)
    (hsub : ∀ i e r, pa k l 0 i e = some r → e.length ≤ i → i ≤ l.length → Par 115 [.int .i64 0] w0 g A c l i e r) (i : Nat) (e : List S156) (r : Option (Nat × List S156)) (hp : pa (k + 1) l 6 i e = some r) (he : e.length ≤ i) (hi : i ≤ l.length) :
    Par 156 [] w0 g A c l i e r := by
  intro w h
  have hle : e.length ≤ 1000000 := by omega
  simp only [pa] at hp
  rw [if_pos trivial] at hp
  by_cases a1 : (nextT l i).f0 = 3
  · rw [if_pos a1] at hp
    obtain rfl := Option.some.inj hp
    exact atom_num h hle a1
  rw [if_neg a1] at hp
  by_cases a2 : (nextT l i).f0 = 4
  · rw [if_pos a2] at hp
    obtain rfl := Option.some.inj hp
    exact atom_quote h hle a2
  rw [if_neg a2] at hp
  by_cases a3 : isT (nextT l i) [⟨#[116, 114, 117, 101]⟩, ⟨#[102, 97, 108, 115, 101]⟩] = true
  · rw [if_pos a3] at hp
    obtain rfl := Option.some.inj hp
    exact atom_truth h hle a1 a2 a3
  rw [if_neg a3] at hp
  replace a3 := Bool.eq_false_iff.2 a3
  by_cases a4 : isT (nextT l i) [⟨#[105, 110]⟩] = true
  · rw [if_pos a4] at hp
    by_cases b1 : isT (nextT l (i + 1)) [⟨#[40]⟩] = true
    · rw [if_pos b1] at hp
      by_cases b2 : nameT (nextT l (i + 1 + 1)) = true
      · rw [if_pos b2] at hp
        by_cases b3 : isT (nextT l (i + 1 + 1 + 1)) [⟨#[41]⟩] = true
        · rw [if_pos b3] at hp
          obtain rfl := Option.some.inj hp
          exact atom_in4 h hle a1 a2 a3 a4 b1 b2 b3
        · rw [if_neg b3] at hp
          obtain rfl := Option.some.inj hp
          exact atom_in3 h hle a1 a2 a3 a4 b1 b2 (Bool.eq_false_iff.2 b3)
      · rw [if_neg b2] at hp
        obtain rfl := Option.some.inj hp
        exact atom_in2 h hle a1 a2 a3 a4 b1 (Bool.eq_false_iff.2 b2)
    · rw [if_neg b1] at hp
      obtain rfl := Option.some.inj hp
      exact atom_in1 h hle a1 a2 a3 a4 (Bool.eq_false_iff.2 b1)
  rw [if_neg a4] at hp
  replace a4 := Bool.eq_false_iff.2 a4
  by_cases a5 : isT (nextT l i) [⟨#[40]⟩] = true
  · rw [if_pos a5] at hp
    obtain ⟨r1, h1, hp⟩ := Option.bind_eq_some_iff.1 hp
    have hil := isT_lt a5
    have S := hsub (i + 1) e r1 h1 (by omega) (by omega)
    cases r1 with
    | none =>
      obtain rfl := Option.some.inj hp
      exact atom_paren0 h hle a1 a2 a3 a4 a5 (fun w hw => par_none S hw)
    | some p =>
      obtain ⟨i2, e2⟩ := p
      simp only at hp
      by_cases b1 : isT (nextT l i2) [⟨#[41]⟩] = true
      · rw [if_pos b1] at hp
        obtain rfl := Option.some.inj hp
        exact atom_paren2 h hle a1 a2 a3 a4 a5 (fun w hw => par_some S hw) b1
      · rw [if_neg b1] at hp
        obtain rfl := Option.some.inj hp
        exact atom_paren1 h hle a1 a2 a3 a4 a5 (fun w hw => par_some S hw) (Bool.eq_false_iff.2 b1)
  rw [if_neg a5] at hp
  replace a5 := Bool.eq_false_iff.2 a5
  by_cases a6 : nameT (nextT l i) = true
  · rw [if_pos a6] at hp
    obtain rfl := Option.some.inj hp
    exact atom_name1 h hle a1 a2 a3 a4 a5 a6
  · rw [if_neg a6] at hp
    obtain rfl := Option.some.inj hp
    exact atom_name0 h hle a1 a2 a3 a4 a5 (Bool.eq_false_iff.2 a6)
theorem unary_calls {w0 : World} {g : Nat} {A : Option Addr} {c : Nat} {l : List S32} (hll : l.length ≤ 1000000) (k : Nat)
    (hsub : ∀ i e r, pa k l 5 i e = some r → e.length ≤ i → i ≤ l.length → Par 138 [] w0 g A c l i e r) (hat : ∀ i e r, pa k l 6 i e = some r → e.length ≤ i → i ≤ l.length → Par 156 [] w0 g A c l i e r)
    (i : Nat) (e : List S156) (r : Option (Nat × List S156)) (hp : pa (k + 1) l 5 i e = some r) (he : e.length ≤ i) (hi : i ≤ l.length) : Par 138 [] w0 g A c l i e r := by
  simp only [pa] at hp
  rw [if_neg (by decide), if_pos trivial] at hp
  have hun : ∀ r1, pa k l 5 (i + 1) e = some r1 → i < l.length → ∀ i2 e2, r1 = some (i2, e2) → e2.length ≤ 1000000 := by
    intro r1 h1 hil i2 e2 hr
    have := pa_inv k l 5 (i + 1) e i2 e2 (by rw [h1, hr]) (by omega)
    omega
  by_cases a1 : isT (nextT l i) [⟨#[110, 111, 116]⟩] = true
  · rw [if_pos a1] at hp
    obtain ⟨r1, h1, hp⟩ := Option.bind_eq_some_iff.1 hp
    have hil := isT_lt a1
    refine par_eq (unary_not a1 (hsub (i + 1) e r1 h1 (by omega) (by omega)) (hun r1 h1 hil)) ?_
    cases r1 with
    | none => exact Option.some.inj hp
    | some p => exact Option.some.inj hp
  rw [if_neg a1] at hp
  replace a1 := Bool.eq_false_iff.2 a1
  by_cases a2 : isT (nextT l i) [⟨#[45]⟩] = true
  · rw [if_pos a2] at hp
    obtain ⟨r1, h1, hp⟩ := Option.bind_eq_some_iff.1 hp
    have hil := isT_lt a2
    refine par_eq (unary_neg a1 a2 (hsub (i + 1) e r1 h1 (by omega) (by omega)) (hun r1 h1 hil)) ?_
    cases r1 with
    | none => exact Option.some.inj hp
    | some p => exact Option.some.inj hp
  rw [if_neg a2] at hp
  exact unary_atom a1 (Bool.eq_false_iff.2 a2) (hat i e r hp he hi)
theorem pa_calls {w0 : World} {g : Nat} {A : Option Addr} {c : Nat} {l : List S32} (hll : l.length ≤ 1000000) (k : Nat) :
    (∀ i e r, pa k l 6 i e = some r → e.length ≤ i → i ≤ l.length → Par 156 [] w0 g A c l i e r) ∧ (∀ i e r, pa k l 5 i e = some r → e.length ≤ i → i ≤ l.length → Par 138 [] w0 g A c l i e r) ∧
    (∀ m, m ≤ 5 → ∀ i e r, pa k l m i e = some r → e.length ≤ i → i ≤ l.length → Par 115 [.int .i64 (m : Int)] w0 g A c l i e r) := by
  induction k using Nat.strongRecOn with
  | _ k ih =>
    cases k with
    | zero => exact ⟨fun i e r h => by simp [pa] at h, fun i e r h => by simp [pa] at h, fun m _ i e r h => by simp [pa] at h⟩
    | succ k =>
      have i0 := ih k (Nat.lt_succ_self k)
      have u := fun i e r => unary_calls hll k (fun i e r => i0.2.1 i e r) (fun i e r => i0.1 i e r) i e r
      refine ⟨fun i e r => atom_calls hll k (fun i e r => i0.2.2 0 (by omega) i e r) i e r, u, fun m hm i e r hp he hi => ?_⟩
      by_cases h5 : m = 5
      · subst h5
        exact binary_unary (u i e r hp he hi)
      · exact binary_calls hll k m (by omega) (fun j hj i e r h1 h2 h3 => (ih j (by omega)).2.2 (m + 1) (by omega) i e r h1 h2 h3) i e r hp he hi
def expr_Parse.f (k : Nat) (l : List S32) (a1 : Int) : Option (List S156 × Int × Int) :=
  if l.length ≤ 1000000 then
    (if 0 ≤ a1 ∧ a1 ≤ (l.length : Int) then
      (pa k l 0 a1.toNat []).bind fun r => (match r with | none => some ([], 0, 11) | some (i2, e2) => (expr_Expr_Size.f k e2).bind fun z => if z = 0 then some (e2, (i2 : Int), 0) else some ([], 0, z))
    else some ([], 0, 11))
  else none
theorem IsP.new {w : World} {A : Option Addr} {c : Nat} {l : List S32} {i : Int} (hr : Kd.C k32 w A l.length l) (hc : l.length ≤ c) : IsP w (w.alloc (.cells #[.slice A l.length c, .int .i64 i, .slice none 0 0] 174)) w.heap.size A c l i [] :=
  ⟨_, blk_new _ _, Nat.le_refl _, Kd.R_nil _ _ _ _ _, hr, hc, below_alloc (Below.refl _ _) _⟩
set_option maxHeartbeats 8000000 in
set_option maxRecDepth 100000 in
theorem parse_bad (A0 : Option Addr) (c0 : Nat) (l0 : List S32) (a1 : Int) (w : World) (h : ¬ (0 ≤ a1 ∧ a1 ≤ (l0.length : Int))) :
    Calls Tryd.prog 90 #[.slice A0 l0.length c0, .int .i64 a1] w fun e w' => e = .returned (.tuple #[.slice none 0 0, .int .i64 0, .int .i64 11]) ∧ Below w.heap.size w w' := by
  by_cases h0 : a1 < 0
  · have b0 : decide (a1 < 0) = true := decide_eq_true h0
    clear h0 h
    go_enter Tryd.func90, Tryd.ntmps90
    go_wp2
    go_ret3
    exact ⟨rfl, Below.refl _ _⟩
  · have b0 : decide (a1 < 0) = false := decide_eq_false h0
    have b1 : decide (a1 > (l0.length : Int)) = true := decide_eq_true (by omega)
    have b2 : decide ((l0.length : Int) < a1) = true := decide_eq_true (by omega)
    clear h0 h
    go_enter Tryd.func90, Tryd.ntmps90
    go_wp2
    go_ret3
    exact ⟨rfl, Below.refl _ _⟩
set_option maxHeartbeats 8000000 in
set_option maxRecDepth 100000 in
theorem expr_Parse.calls (k : Nat) (A0 : Option Addr) (c0 : Nat) (l0 : List S32) (a1 : Int) (r1 : List S156) (r2 r3 : Int) (w : World) (hr0 : Kd.C k32 w A0 l0.length l0) (hc0 : l0.length ≤ c0) (h : expr_Parse.f k l0 a1 = some (r1, r2, r3)) :
    Calls Tryd.prog 90 #[.slice A0 l0.length c0, .int .i64 a1] w fun e w' => ∃ v0_ : Value, e = .returned (.tuple #[v0_, .int .i64 r2, .int .i64 r3]) ∧ Kd.R k156 156 w' w.heap.size (fun _ => True) v0_ r1 ∧ Below w.heap.size w w' := by
  unfold expr_Parse.f at h
  by_cases hl : l0.length ≤ 1000000
  · rw [if_pos hl] at h
    by_cases hh : 0 ≤ a1 ∧ a1 ≤ (l0.length : Int)
    · rw [if_pos hh] at h
      obtain ⟨i, rfl⟩ := Int.eq_ofNat_of_zero_le hh.1
      obtain ⟨r, hr, h⟩ := Option.bind_eq_some_iff.1 h
      rw [Int.toNat_natCast] at hr
      have hi : i ≤ l0.length := by omega
      have S := Aside0.mk ((pa_calls (w0 := w) (g := w.heap.size) (A := A0) (c := c0) hl k).2.2 0 (by omega) i [] r hr (by simp) hi)
      have V := Aside0.mk (fun i2 e2 (hr2 : r = some (i2, e2)) => pa_inv k l0 0 i [] i2 e2 (by rw [hr, hr2]) hi)
      have P := Aside0.mk (IsP.new (i := (i : Int)) hr0 hc0)
      have HH := Aside0.mk h
      have b0 : decide ((i : Int) < 0) = false := decide_eq_false (by omega)
      have b1 : decide (l0.length < i) = false := decide_eq_false (by omega)
      clear hr h hr0 hc0 hh hi
      cases r with
      | none =>
        have h := HH.out
        simp only [Option.some.injEq, Prod.mk.injEq] at h
        obtain ⟨rfl, rfl, rfl⟩ := h
        go_enter Tryd.func90, Tryd.ntmps90
        go_wp2_with (go_at_call 115; refine (par_none S.out P.out).mono ?_)
        rintro x w2 rfl h_
        have B2 := Aside0.mk h_
        clear h_
        go_wp2
        go_ret3
        exact ⟨_, rfl, Kd.R_nil _ _ _ _ _, B2.out⟩
      | some p =>
        obtain ⟨i2, e2⟩ := p
        obtain ⟨v1, v2, v3⟩ := V.out i2 e2 rfl
        have h := HH.out
        obtain ⟨z, hz, h⟩ := Option.bind_eq_some_iff.1 h
        have HZ := Aside0.mk hz
        have HH2 := Aside0.mk h
        clear HH V hz h v1 v2 v3
        go_enter Tryd.func90, Tryd.ntmps90
        go_wp2_with (go_at_call 115; refine (par_some S.out P.out).mono ?_)
        rintro x w2 rfl h_ k_
        have H2 := Aside0.mk h_
        clear h_ k_ S P
        have h3 := H2.out
        obtain ⟨ve, q, _, r, _, _, bl⟩ := h3
        obtain ⟨A2, c2, ev⟩ := Kd.R_slice r
        subst ev
        have R2 := Aside0.mk r
        have B2 := Aside0.mk bl
        have Q2 := Aside0.mk q
        clear r bl q H2
        have d2 := blk_cell Q2.out 2
        go_wp2_with (go_at_call 95; refine (expr_Expr_Size.calls k A2 c2 e2 z _ (Kd.R_reads' R2.out).2.2 (Kd.R_reads' R2.out).2.1 HZ.out).mono ?_)
        rintro x w3 ⟨rfl, hb⟩
        have R3 := Aside0.mk (Kd.R_below R2.out hb)
        have B3 := Aside0.mk (below_step B2.out hb)
        have Q3 := Aside0.mk (blk_below Q2.out hb)
        clear hb R2 B2 Q2 d2
        have h := HH2.out
        by_cases hz0 : z = 0
        · rw [if_pos hz0] at h
          subst hz0
          have d1 := blk_cell Q3.out 1
          have d2 := blk_cell Q3.out 2
          simp only [Option.some.injEq, Prod.mk.injEq] at h
          obtain ⟨rfl, rfl, rfl⟩ := h
          go_wp2
          go_quiet (fail)
          go_wp2
          go_ret3
          exact ⟨_, rfl, Kd.R_mono (Kd.R_drewN R3.out _) (fun _ _ => trivial), pw_below_drewN B3.out _⟩
        · rw [if_neg hz0] at h
          have b3 : (z != 0) = true := bne_iff_ne.2 hz0
          clear hz0
          simp only [Option.some.injEq, Prod.mk.injEq] at h
          obtain ⟨rfl, rfl, rfl⟩ := h
          go_wp2
          go_ret3
          exact ⟨_, rfl, Kd.R_nil _ _ _ _ _, B3.out⟩
    · rw [if_neg hh] at h
      simp only [Option.some.injEq, Prod.mk.injEq] at h
      obtain ⟨rfl, rfl, rfl⟩ := h
      exact (parse_bad A0 c0 l0 a1 w hh).mono fun e w' ⟨he, hb⟩ => ⟨_, he, Kd.R_nil _ _ _ _ _, hb⟩
  · rw [if_neg hl] at h; cases h
end Go.Proofs.YtbngfhlciebeeaaDoor.L
end
