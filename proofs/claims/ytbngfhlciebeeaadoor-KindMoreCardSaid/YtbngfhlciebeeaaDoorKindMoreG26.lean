/- Printed and hand-written steps towards the row (KindMore), those that it reaches. -/
import Derived.Test.YtbngfhlciebeeaaDoorKindMoreGPars3
import Derived.Test.YtbngfhlciebeeaaDoorKindMoreG15
section
namespace Go.Proofs.YtbngfhlciebeeaaDoor.Sp
set_option linter.unusedVariables false
set_option linter.unusedSimpArgs false
open Go.RowKit Go.Proofs.YtbngfhlciebeeaaDoorW.PrintWords Go.Proofs.YtbngfhlciebeeaaDoorW.PrintMore Go.Proofs.YtbngfhlciebeeaaDoor.L
inductive Seg (l : List S156) : Nat → Nat → Prop
  | leaf {b : Nat} {x : S156} (h : l[b]? = some x) (o : x.f0 = 0 ∨ x.f0 = 16 ∨ x.f0 = 17) : Seg l b b
  | one {a b : Nat} {x : S156} (h : l[b + 1]? = some x) (o : x.f0 = 1 ∨ x.f0 = 2) (hl : x.f3 = (b : Int)) (s : Seg l a b) : Seg l a (b + 1)
  | two {a b c : Nat} {x : S156} (h : l[b + 1]? = some x) (o : 3 ≤ x.f0 ∧ x.f0 ≤ 15) (hl : x.f3 = (c : Int)) (hr : x.f4 = (b : Int)) (s : Seg l a c) (t : Seg l (c + 1) b) : Seg l a (b + 1)
theorem Seg.le {l : List S156} {a b : Nat} (h : Seg l a b) : a ≤ b := by
  induction h with
  | leaf => omega
  | one _ _ _ _ ih => omega
  | two _ _ _ _ _ _ i1 i2 => omega
theorem Seg.lt {l : List S156} {a b : Nat} (h : Seg l a b) : b < l.length := by
  cases h with
  | leaf h => exact (List.getElem?_eq_some_iff.1 h).1
  | one h => exact (List.getElem?_eq_some_iff.1 h).1
  | two h => exact (List.getElem?_eq_some_iff.1 h).1
theorem pre_at {e e2 : List S156} (h : e <+: e2) {j : Nat} {x : S156} (hx : e[j]? = some x) : e2[j]? = some x := by
  obtain ⟨t, rfl⟩ := h
  rw [List.getElem?_append_left (List.getElem?_eq_some_iff.1 hx).1]; exact hx
theorem Seg.pre {e e2 : List S156} (h : e <+: e2) {a b : Nat} (s : Seg e a b) : Seg e2 a b := by
  induction s with
  | leaf h1 o => exact .leaf (pre_at h h1) o
  | one h1 o hl _ ih => exact .one (pre_at h h1) o hl ih
  | two h1 o hl hr _ _ i1 i2 => exact .two (pre_at h h1) o hl hr i1 i2
def PlainS (s : ByteArray) : Prop := (s.data.toList.all val_Plain.ok && decide (s.size ≤ 48)) = true
def ValOk (v : S103) : Prop := (v.f0 = 1 ∧ v.f2 = ⟨#[]⟩) ∨ (v.f0 = 2 ∧ (v.f1 = 0 ∨ v.f1 = 1) ∧ v.f2 = ⟨#[]⟩) ∨ (v.f0 = 3 ∧ v.f1 = 0 ∧ PlainS v.f2)
inductive NodeOk : S156 → Nat → Prop
  | lit {j : Nat} (v : S103) (h : ValOk v) (h1 : v.f0 = 1 → 0 ≤ v.f1 ∧ v.f1 ≤ 9223372036854775807) : NodeOk (nodeV v) j
  | name {j : Nat} (op : Int) (s : ByteArray) (o : op = 16 ∨ op = 17) (h : nameT s = true) : NodeOk (nodeN op s) j
  | one {j : Nat} (op : Int) (o : op = 1 ∨ op = 2) (hj : 1 ≤ j) : NodeOk (nodeO op ((j : Int) - 1) 0) j
  | two {j : Nat} (op c : Int) (o : 3 ≤ op ∧ op ≤ 15) (h0 : 0 ≤ c) (h1 : c < (j : Int)) : NodeOk (nodeO op c ((j : Int) - 1)) j
def Grows (e e2 : List S156) : Prop := e <+: e2 ∧ ∀ (j : Nat) (x : S156), e.length ≤ j → e2[j]? = some x → NodeOk x j
theorem Grows.refl (e : List S156) : Grows e e := ⟨List.prefix_rfl, fun j x hj hx => absurd (List.getElem?_eq_some_iff.1 hx).1 (by omega)⟩
theorem Grows.trans {e e2 e3 : List S156} (h : Grows e e2) (k : Grows e2 e3) : Grows e e3 := ⟨h.1.trans k.1, fun j x hj hx => by
  by_cases hlt : j < e2.length
  · have h1 := pre_at k.1 (List.getElem?_eq_getElem hlt)
    rw [hx] at h1
    rw [Option.some.inj h1]
    exact h.2 j _ hj (List.getElem?_eq_getElem hlt)
  · exact k.2 j x (by omega) hx⟩
theorem Grows.snoc {e : List S156} {x : S156} (h : NodeOk x e.length) : Grows e (e ++ [x]) := ⟨List.prefix_append _ _, fun j y hj hy => by
  have h1 := (List.getElem?_eq_some_iff.1 hy).1
  rw [List.length_append, List.length_singleton] at h1
  obtain rfl : j = e.length := by omega
  rw [List.getElem?_append_right (Nat.le_refl _), Nat.sub_self] at hy
  obtain rfl := Option.some.inj hy
  exact h⟩
theorem Grows.len {e e2 : List S156} (h : Grows e e2) : e.length ≤ e2.length := h.1.length_le
theorem last_at (e : List S156) (x : S156) : (e ++ [x])[e.length]? = some x := by simp
theorem len_snoc (e : List S156) (x : S156) : (e ++ [x]).length - 1 = e.length := by simp
theorem seg_leaf (e : List S156) {x : S156} (o : x.f0 = 0 ∨ x.f0 = 16 ∨ x.f0 = 17) : Seg (e ++ [x]) e.length ((e ++ [x]).length - 1) := by
  rw [len_snoc]; exact .leaf (last_at e x) o
theorem seg_one {e : List S156} {a : Nat} {op : Int} (o : op = 1 ∨ op = 2) (s : Seg e a (e.length - 1)) : Seg (e ++ [nodeO op ((e.length : Int) - 1) 0]) a ((e ++ [nodeO op ((e.length : Int) - 1) 0]).length - 1) := by
  have := s.lt
  rw [len_snoc]
  obtain ⟨n, hn⟩ : ∃ n, e.length = n + 1 := ⟨e.length - 1, by omega⟩
  rw [hn, Nat.add_sub_cancel] at s
  rw [hn]
  refine .one (x := nodeO op (((n + 1 : Nat) : Int) - 1) 0) ?_ o ?_ (s.pre (List.prefix_append _ _))
  · rw [← hn]; exact last_at _ _
  · show ((n + 1 : Nat) : Int) - 1 = n; omega
theorem seg_two {e e2 : List S156} {a : Nat} {op : Int} (o : 3 ≤ op ∧ op ≤ 15) (hp : e <+: e2) (h0 : a < e.length) (s : Seg e a (e.length - 1)) (t : Seg e2 e.length (e2.length - 1)) :
    Seg (e2 ++ [nodeO op ((e.length : Int) - 1) ((e2.length : Int) - 1)]) a ((e2 ++ [nodeO op ((e.length : Int) - 1) ((e2.length : Int) - 1)]).length - 1) := by
  have := t.lt
  rw [len_snoc]
  have hat := last_at e2 (nodeO op ((e.length : Int) - 1) ((e2.length : Int) - 1))
  have t' : Seg (e2 ++ [nodeO op ((e.length : Int) - 1) ((e2.length : Int) - 1)]) _ _ := t.pre (List.prefix_append _ _)
  have s' : Seg (e2 ++ [nodeO op ((e.length : Int) - 1) ((e2.length : Int) - 1)]) _ _ := (s.pre hp).pre (List.prefix_append _ _)
  generalize e2 ++ [nodeO op ((e.length : Int) - 1) ((e2.length : Int) - 1)] = L at *
  obtain ⟨n, hn⟩ : ∃ n, e2.length = n + 1 := ⟨e2.length - 1, by omega⟩
  rw [hn] at hat t' ⊢
  rw [Nat.add_sub_cancel] at t'
  obtain ⟨c, hc⟩ : ∃ c, e.length = c + 1 := ⟨e.length - 1, by omega⟩
  rw [hc] at hat t' s'
  rw [Nat.add_sub_cancel] at s'
  refine .two (c := c) hat o ?_ ?_ s' t'
  · show ((c + 1 : Nat) : Int) - 1 = c; omega
  · show ((n + 1 : Nat) : Int) - 1 = n; omega
def TokOk (t : S32) : Prop := (t.f0 = 3 → 0 ≤ t.f2 ∧ t.f2 ≤ 9223372036854775807) ∧ (t.f0 = 4 → PlainS t.f1) ∧ (t.f0 = 1 → ¬ t.f1.data.toList ∈ meanWords → nameT t.f1 = true)
theorem opIn_mem : ∀ (ss : List ByteArray) (os : List Int) (t : S32) (o : Int), opIn ss os t = some o → o ∈ os
  | [], os, t, o, h => by cases os <;> simp [opIn] at h
  | s :: ss, [], t, o, h => by simp [opIn] at h
  | s :: ss, o' :: os, t, o, h => by
    simp only [opIn] at h
    by_cases hs : isT t [s] = true
    · rw [if_pos hs] at h
      rw [Option.some.inj h]; exact List.mem_cons_self
    · rw [if_neg hs] at h
      exact List.mem_cons_of_mem _ (opIn_mem ss os t o h)
theorem lev_ops (m : Nat) : ∀ o ∈ (levAt m).ops, 3 ≤ o ∧ o ≤ 15 := by
  by_cases h : m < 5
  · have : m = 0 ∨ m = 1 ∨ m = 2 ∨ m = 3 ∨ m = 4 := by omega
    rcases this with rfl | rfl | rfl | rfl | rfl <;> decide
  · unfold levAt
    rw [List.getD_eq_getElem?_getD, List.getElem?_eq_none (by show 5 ≤ m; omega)]
    intro o ho; cases ho
theorem lname_ok {t : S32} (h : TokOk t) (hn : L.nameT t = true) : nameT t.f1 = true := by
  unfold L.nameT at hn
  simp only [Bool.and_eq_true, beq_iff_eq, Bool.not_eq_true', decide_eq_false_iff_not] at hn
  exact h.2.2 hn.1 hn.2
theorem truth_ok (b : Bool) : ValOk (truthV b) := by
  cases b
  · exact Or.inr (Or.inl ⟨rfl, Or.inl rfl, rfl⟩)
  · exact Or.inr (Or.inl ⟨rfl, Or.inr rfl, rfl⟩)
theorem truth_kind (b : Bool) : (truthV b).f0 = 2 := by cases b <;> rfl
theorem pa_seg (l : List S32) (hl : ∀ i, i < l.length → TokOk (nextT l i)) : ∀ (k m i : Nat) (e : List S156) (i2 : Nat) (e2 : List S156), pa k l m i e = some (some (i2, e2)) → (7 ≤ m → 0 < e.length) →
    Grows e e2 ∧ (m ≤ 6 → e.length < e2.length ∧ Seg e2 e.length (e2.length - 1)) ∧ (7 ≤ m → ∀ a, a < e.length → Seg e a (e.length - 1) → Seg e2 a (e2.length - 1)) := by
  intro k
  induction k with
  | zero => intro m i e i2 e2 h _; simp [pa] at h
  | succ k ih =>
    intro m i e i2 e2 h hne
    have fin : ∀ {n : Nat} {x : S156}, some (some (n, e ++ [x])) = some (some (i2, e2)) → m = 6 → NodeOk x e.length → (x.f0 = 0 ∨ x.f0 = 16 ∨ x.f0 = 17) →
        Grows e e2 ∧ (m ≤ 6 → e.length < e2.length ∧ Seg e2 e.length (e2.length - 1)) ∧ (7 ≤ m → ∀ a, a < e.length → Seg e a (e.length - 1) → Seg e2 a (e2.length - 1)) := by
      intro n x h hm hx ho
      simp only [Option.some.injEq, Prod.mk.injEq] at h
      obtain ⟨_, rfl⟩ := h
      exact ⟨Grows.snoc hx, fun _ => ⟨by simp, seg_leaf e ho⟩, fun h7 => by omega⟩
    simp only [pa] at h
    by_cases h6 : m = 6
    · rw [if_pos h6] at h
      by_cases a1 : (nextT l i).f0 = 3
      · rw [if_pos a1] at h
        have hi := kind_lt (l := l) (i := i) (by rw [a1]; decide)
        exact fin h h6 (.lit _ (Or.inl ⟨rfl, rfl⟩) (fun _ => (hl i hi).1 a1)) (Or.inl rfl)
      rw [if_neg a1] at h
      by_cases a2 : (nextT l i).f0 = 4
      · rw [if_pos a2] at h
        have hi := kind_lt (l := l) (i := i) (by rw [a2]; decide)
        exact fin h h6 (.lit _ (Or.inr (Or.inr ⟨rfl, rfl, (hl i hi).2.1 a2⟩)) (fun h => by cases h)) (Or.inl rfl)
      rw [if_neg a2] at h
      by_cases a3 : isT (nextT l i) [⟨#[116, 114, 117, 101]⟩, ⟨#[102, 97, 108, 115, 101]⟩] = true
      · rw [if_pos a3] at h
        exact fin h h6 (.lit _ (truth_ok _) (fun h => by rw [truth_kind] at h; cases h)) (Or.inl rfl)
      rw [if_neg a3] at h
      by_cases a4 : isT (nextT l i) [⟨#[105, 110]⟩] = true
      · rw [if_pos a4] at h
        by_cases b1 : isT (nextT l (i + 1)) [⟨#[40]⟩] = true
        · rw [if_pos b1] at h
          by_cases b2 : L.nameT (nextT l (i + 1 + 1)) = true
          · rw [if_pos b2] at h
            by_cases b3 : isT (nextT l (i + 1 + 1 + 1)) [⟨#[41]⟩] = true
            · rw [if_pos b3] at h
              have hi := nameT_lt b2
              exact fin h h6 (.name 17 _ (Or.inr rfl) (lname_ok (hl _ hi) b2)) (Or.inr (Or.inr rfl))
            · rw [if_neg b3] at h; simp at h
          · rw [if_neg b2] at h; simp at h
        · rw [if_neg b1] at h; simp at h
      rw [if_neg a4] at h
      by_cases a5 : isT (nextT l i) [⟨#[40]⟩] = true
      · rw [if_pos a5] at h
        obtain ⟨r, hr, h⟩ := Option.bind_eq_some_iff.1 h
        cases r with
        | none => simp at h
        | some p =>
          obtain ⟨i3, e3⟩ := p
          simp only at h
          by_cases b1 : isT (nextT l i3) [⟨#[41]⟩] = true
          · rw [if_pos b1] at h
            have := ih 0 (i + 1) e i3 e3 hr (by omega)
            simp only [Option.some.injEq, Prod.mk.injEq] at h
            obtain ⟨rfl, rfl⟩ := h
            exact ⟨this.1, fun _ => this.2.1 (by omega), fun h7 => by omega⟩
          · rw [if_neg b1] at h; simp at h
      rw [if_neg a5] at h
      by_cases a6 : L.nameT (nextT l i) = true
      · rw [if_pos a6] at h
        have hi := nameT_lt a6
        exact fin h h6 (.name 16 _ (Or.inl rfl) (lname_ok (hl _ hi) a6)) (Or.inr (Or.inl rfl))
      · rw [if_neg a6] at h; simp at h
    rw [if_neg h6] at h
    by_cases h5 : m = 5
    · rw [if_pos h5] at h
      have hun : ∀ (op : Int), (op = 1 ∨ op = 2) → ((pa k l 5 (i + 1) e).bind fun r => (match r with | none => some none | some (i2, e2) => some (some (i2, e2 ++ [nodeO op ((e2.length : Int) - 1) 0])))) = some (some (i2, e2)) →
          Grows e e2 ∧ (m ≤ 6 → e.length < e2.length ∧ Seg e2 e.length (e2.length - 1)) ∧ (7 ≤ m → ∀ a, a < e.length → Seg e a (e.length - 1) → Seg e2 a (e2.length - 1)) := by
        intro op ho h
        obtain ⟨r, hr, h⟩ := Option.bind_eq_some_iff.1 h
        cases r with
        | none => simp at h
        | some p =>
          obtain ⟨i3, e3⟩ := p
          obtain ⟨g1, g2, _⟩ := ih 5 (i + 1) e i3 e3 hr (by omega)
          obtain ⟨g3, g4⟩ := g2 (by omega)
          simp only [Option.some.injEq, Prod.mk.injEq] at h
          obtain ⟨rfl, rfl⟩ := h
          exact ⟨g1.trans (Grows.snoc (.one op ho (by omega))), fun _ => ⟨by simp; omega, seg_one ho g4⟩, fun h7 => by omega⟩
      by_cases a1 : isT (nextT l i) [⟨#[110, 111, 116]⟩] = true
      · rw [if_pos a1] at h
        exact hun 1 (Or.inl rfl) h
      rw [if_neg a1] at h
      by_cases a2 : isT (nextT l i) [⟨#[45]⟩] = true
      · rw [if_pos a2] at h
        exact hun 2 (Or.inr rfl) h
      rw [if_neg a2] at h
      obtain ⟨g1, g2, _⟩ := ih 6 i e i2 e2 h (by omega)
      exact ⟨g1, fun _ => g2 (by omega), fun h7 => by omega⟩
    rw [if_neg h5] at h
    by_cases hm : m < 5
    · rw [if_pos hm] at h
      obtain ⟨r, hr, h⟩ := Option.bind_eq_some_iff.1 h
      cases r with
      | none => simp at h
      | some p =>
        obtain ⟨i3, e3⟩ := p
        obtain ⟨g1, g2, _⟩ := ih (m + 1) i e i3 e3 hr (by omega)
        obtain ⟨g3, g4⟩ := g2 (by omega)
        obtain ⟨k1, _, k3⟩ := ih (m + 7) i3 e3 i2 e2 h (by omega)
        have := k1.len
        exact ⟨g1.trans k1, fun _ => ⟨by omega, k3 (by omega) _ g3 g4⟩, fun h7 => by omega⟩
    rw [if_neg hm] at h
    cases ho : opIn (levAt (m - 7)).signs (levAt (m - 7)).ops (nextT l i) with
    | none =>
      rw [ho] at h
      simp only [Option.some.injEq, Prod.mk.injEq] at h
      obtain ⟨rfl, rfl⟩ := h
      exact ⟨Grows.refl _, fun h => by omega, fun _ a _ s => s⟩
    | some o =>
      rw [ho] at h
      have hil := opIn_lt ho
      have hop := lev_ops _ o (opIn_mem _ _ _ _ ho)
      obtain ⟨r, hr, h⟩ := Option.bind_eq_some_iff.1 h
      cases r with
      | none => simp at h
      | some p =>
        obtain ⟨i3, e3⟩ := p
        have h11 : m - 7 < 5 := by
          by_cases h : m - 7 < 5
          · exact h
          · have : levAt (m - 7) = ⟨[], [], false⟩ := by
              unfold levAt
              rw [List.getD_eq_getElem?_getD, List.getElem?_eq_none (by show 5 ≤ m - 7; omega)]; rfl
            rw [this] at ho
            simp [opIn] at ho
        have h7 : 7 ≤ m := by omega
        have h0 := hne h7
        obtain ⟨g1, g2, _⟩ := ih (m - 7 + 1) (i + 1) e i3 e3 hr (by omega)
        obtain ⟨g3, g4⟩ := g2 (by omega)
        simp only at h
        have G : Grows e (e3 ++ [nodeO o ((e.length : Int) - 1) ((e3.length : Int) - 1)]) := g1.trans (Grows.snoc (.two o _ hop (by omega) (by omega)))
        by_cases hon : (levAt (m - 7)).once = true
        · rw [if_pos hon] at h
          simp only [Option.some.injEq, Prod.mk.injEq] at h
          obtain ⟨rfl, rfl⟩ := h
          exact ⟨G, fun h => by omega, fun _ a ha s => seg_two hop g1.1 ha s g4⟩
        · rw [if_neg hon] at h
          obtain ⟨k1, _, k3⟩ := ih m i3 _ i2 e2 h (fun _ => by simp)
          exact ⟨G.trans k1, fun h => by omega, fun h7 a ha s => k3 h7 a (by have := g1.len; simp; omega) (seg_two hop g1.1 ha s g4)⟩
def rank (m : Nat) : Nat := if m < 7 then 7 - m else 0
theorem pa_total (l : List S32) : ∀ (n m i : Nat) (e : List S156), (l.length - i) * 8 + rank m < n → m ≤ 11 → i ≤ l.length → ∃ r, Ev (fun k => pa k l m i e) r := by
  intro n
  induction n with
  | zero => intro m i e h; omega
  | succ n ih =>
    intro m i e h hm hi
    suffices hx : ∃ r, Ev (fun k => pa (k + 1) l m i e) r by
      obtain ⟨r, hr⟩ := hx
      exact ⟨r, Ev.succ hr⟩
    simp only [pa]
    by_cases h6 : m = 6
    · have hr : rank m = 1 := by rw [h6]; rfl
      by_cases a1 : (nextT l i).f0 = 3
      · exact ⟨_, Ev.pos h6 (Ev.pos a1 (Ev.some rfl))⟩
      by_cases a2 : (nextT l i).f0 = 4
      · exact ⟨_, Ev.pos h6 (Ev.neg a1 (Ev.pos a2 (Ev.some rfl)))⟩
      by_cases a3 : isT (nextT l i) [⟨#[116, 114, 117, 101]⟩, ⟨#[102, 97, 108, 115, 101]⟩] = true
      · exact ⟨_, Ev.pos h6 (Ev.neg a1 (Ev.neg a2 (Ev.pos a3 (Ev.some rfl))))⟩
      by_cases a4 : isT (nextT l i) [⟨#[105, 110]⟩] = true
      · by_cases b1 : isT (nextT l (i + 1)) [⟨#[40]⟩] = true
        · by_cases b2 : L.nameT (nextT l (i + 1 + 1)) = true
          · by_cases b3 : isT (nextT l (i + 1 + 1 + 1)) [⟨#[41]⟩] = true
            · exact ⟨_, Ev.pos h6 (Ev.neg a1 (Ev.neg a2 (Ev.neg a3 (Ev.pos a4 (Ev.pos b1 (Ev.pos b2 (Ev.pos b3 (Ev.some rfl))))))))⟩
            · exact ⟨_, Ev.pos h6 (Ev.neg a1 (Ev.neg a2 (Ev.neg a3 (Ev.pos a4 (Ev.pos b1 (Ev.pos b2 (Ev.neg b3 (Ev.some rfl))))))))⟩
          · exact ⟨_, Ev.pos h6 (Ev.neg a1 (Ev.neg a2 (Ev.neg a3 (Ev.pos a4 (Ev.pos b1 (Ev.neg b2 (Ev.some rfl)))))))⟩
        · exact ⟨_, Ev.pos h6 (Ev.neg a1 (Ev.neg a2 (Ev.neg a3 (Ev.pos a4 (Ev.neg b1 (Ev.some rfl))))))⟩
      by_cases a5 : isT (nextT l i) [⟨#[40]⟩] = true
      · have := isT_lt a5
        obtain ⟨r, hr⟩ := ih 0 (i + 1) e (by have : rank 0 = 7 := rfl; omega) (by omega) (by omega)
        have key : ∃ s, Ev (fun k => (pa k l 0 (i + 1) e).bind fun r => (match r with | none => some none | some (i2, e2) => if isT (nextT l i2) [⟨#[41]⟩] = true then some (some (i2 + 1, e2)) else some none)) s := by
          cases r with
          | none => exact ⟨none, Ev.bind hr (Ev.some rfl)⟩
          | some p =>
            by_cases b1 : isT (nextT l p.1) [⟨#[41]⟩] = true
            · exact ⟨some (p.1 + 1, p.2), Ev.bind hr (Ev.const fun k => if_pos b1)⟩
            · exact ⟨none, Ev.bind hr (Ev.const fun k => if_neg b1)⟩
        obtain ⟨s, hs⟩ := key
        exact ⟨s, Ev.pos h6 (Ev.neg a1 (Ev.neg a2 (Ev.neg a3 (Ev.neg a4 (Ev.pos a5 hs)))))⟩
      by_cases a6 : L.nameT (nextT l i) = true
      · exact ⟨_, Ev.pos h6 (Ev.neg a1 (Ev.neg a2 (Ev.neg a3 (Ev.neg a4 (Ev.neg a5 (Ev.pos a6 (Ev.some rfl)))))))⟩
      · exact ⟨_, Ev.pos h6 (Ev.neg a1 (Ev.neg a2 (Ev.neg a3 (Ev.neg a4 (Ev.neg a5 (Ev.neg a6 (Ev.some rfl)))))))⟩
    by_cases h5 : m = 5
    · have hr : rank m = 2 := by rw [h5]; rfl
      have hun : ∀ (op : Int), i < l.length → ∃ s, Ev (fun k => (pa k l 5 (i + 1) e).bind fun r => (match r with | none => some none | some (i2, e2) => some (some (i2, e2 ++ [nodeO op ((e2.length : Int) - 1) 0])))) s := by
        intro op hil
        obtain ⟨r, hr⟩ := ih 5 (i + 1) e (by have : rank 5 = 2 := rfl; omega) (by omega) (by omega)
        cases r with
        | none => exact ⟨none, Ev.bind hr (Ev.some rfl)⟩
        | some p => exact ⟨some (p.1, p.2 ++ [nodeO op ((p.2.length : Int) - 1) 0]), Ev.bind hr (Ev.const fun k => rfl)⟩
      by_cases a1 : isT (nextT l i) [⟨#[110, 111, 116]⟩] = true
      · obtain ⟨s, hs⟩ := hun 1 (isT_lt a1)
        exact ⟨s, Ev.neg h6 (Ev.pos h5 (Ev.pos a1 hs))⟩
      by_cases a2 : isT (nextT l i) [⟨#[45]⟩] = true
      · obtain ⟨s, hs⟩ := hun 2 (isT_lt a2)
        exact ⟨s, Ev.neg h6 (Ev.pos h5 (Ev.neg a1 (Ev.pos a2 hs)))⟩
      obtain ⟨s, hs⟩ := ih 6 i e (by have : rank 6 = 1 := rfl; omega) (by omega) hi
      exact ⟨s, Ev.neg h6 (Ev.pos h5 (Ev.neg a1 (Ev.neg a2 hs)))⟩
    by_cases h4 : m < 5
    · have hr : rank m = 7 - m := if_pos (by omega)
      have hr1 : rank (m + 1) = 7 - (m + 1) := if_pos (by omega)
      have hr2 : rank (m + 7) = 0 := if_neg (by omega)
      obtain ⟨r, hr⟩ := ih (m + 1) i e (by omega) (by omega) hi
      cases r with
      | none => exact ⟨none, Ev.neg h6 (Ev.neg h5 (Ev.pos h4 (Ev.bind hr (Ev.some rfl))))⟩
      | some p =>
        obtain ⟨K, hK⟩ := hr
        have := pa_inv K l (m + 1) i e p.1 p.2 (hK K (Nat.le_refl _)) hi
        obtain ⟨s, hs⟩ := ih (m + 7) p.1 p.2 (by have : (l.length - p.1) * 8 ≤ (l.length - i) * 8 := Nat.mul_le_mul_right _ (by omega); omega) (by omega) (by omega)
        exact ⟨s, Ev.neg h6 (Ev.neg h5 (Ev.pos h4 (Ev.bind ⟨K, hK⟩ hs)))⟩
    · cases ho : opIn (levAt (m - 7)).signs (levAt (m - 7)).ops (nextT l i) with
      | none => exact ⟨some (i, e), Ev.neg h6 (Ev.neg h5 (Ev.neg h4 (Ev.some rfl)))⟩
      | some o =>
        have hil := opIn_lt ho
        have hrm : rank (m - 7 + 1) ≤ 7 := by unfold rank; split <;> omega
        have hr0 : rank m = 0 := if_neg (by omega)
        obtain ⟨r, hr⟩ := ih (m - 7 + 1) (i + 1) e (by omega) (by omega) (by omega)
        cases r with
        | none => exact ⟨none, Ev.neg h6 (Ev.neg h5 (Ev.neg h4 (Ev.bind hr (Ev.some rfl))))⟩
        | some p =>
          by_cases hon : (levAt (m - 7)).once = true
          · exact ⟨_, Ev.neg h6 (Ev.neg h5 (Ev.neg h4 (Ev.bind hr (Ev.pos hon (Ev.some rfl)))))⟩
          · obtain ⟨K, hK⟩ := hr
            have := pa_inv K l (m - 7 + 1) (i + 1) e p.1 p.2 (hK K (Nat.le_refl _)) (by omega)
            obtain ⟨s, hs⟩ := ih m p.1 (p.2 ++ [nodeO o ((e.length : Int) - 1) ((p.2.length : Int) - 1)]) (by omega) hm (by omega)
            exact ⟨s, Ev.neg h6 (Ev.neg h5 (Ev.neg h4 (Ev.bind ⟨K, hK⟩ (Ev.neg hon hs))))⟩
theorem pa_ev (l : List S32) : ∃ r, Ev (fun k => pa k l 0 0 []) r := pa_total l _ 0 0 [] (Nat.lt_succ_self _) (by omega) (by omega)
end Go.Proofs.YtbngfhlciebeeaaDoor.Sp
end
section
namespace Go.Proofs.YtbngfhlciebeeaaDoor.Sp
set_option linter.unusedVariables false
set_option linter.unusedSimpArgs false
open Go.RowKit Go.Proofs.YtbngfhlciebeeaaDoorW.PrintWords Go.Proofs.YtbngfhlciebeeaaDoorW.PrintMore Go.Proofs.YtbngfhlciebeeaaDoor.L
theorem pathGo_two (L : List UInt8) : ∀ (f e : Nat) (k : Int) (e' : Nat), pathGo L f e 2 = some (k, e') → k = 2
  | 0, _, _, _, h => by simp [pathGo] at h
  | f + 1, e, k, e', h => by
    unfold pathGo at h
    split at h
    · split at h
      · cases h
      · exact pathGo_two L f _ k e' h
    · simp only [Option.some.injEq, Prod.mk.injEq] at h
      exact h.1.symm
theorem pathGo_one {L : List UInt8} {f e e' : Nat} (h : pathGo L f e 1 = some (1, e')) : e' = e := by
  cases f with
  | zero => simp [pathGo] at h
  | succ f =>
    unfold pathGo at h
    split at h
    · split at h
      · cases h
      · have := pathGo_two L f _ _ _ h
        omega
    · simp only [Option.some.injEq, Prod.mk.injEq] at h
      exact h.2.symm
theorem numFold_le : ∀ (l : List UInt8) (n r : Int), 0 ≤ n → n ≤ 9223372036854775807 → l.all isDigit = true → numFold l n = some r → 0 ≤ r ∧ r ≤ 9223372036854775807
  | [], n, r, h0, h1, _, h => by simp only [numFold, Option.some.injEq] at h; omega
  | c :: l, n, r, h0, h1, ha, h => by
    simp only [numFold] at h
    have hd := List.all_eq_true.1 ha c List.mem_cons_self
    have hd2 : 48 ≤ c.toNat ∧ c.toNat ≤ 57 := by unfold isDigit at hd; simpa using hd
    split at h
    · cases h
    · exact numFold_le l _ r (by omega) (by omega) (by rw [List.all_cons, Bool.and_eq_true] at ha; exact ha.2) h
theorem takeWhile_all_true {p : UInt8 → Bool} : ∀ (L : List UInt8), (L.takeWhile p).all p = true
  | [] => rfl
  | c :: L => by
    rw [List.takeWhile_cons]
    split
    · rename_i h; rw [List.all_cons, h, takeWhile_all_true L]; rfl
    · rfl
theorem cut_all (L : List UInt8) : cut L 0 L.length = L := by unfold cut; simp
theorem lex_word (t : List UInt8) (h0 : 0 < t.length) (hs : smallB (t.getD 0 0) = true) (ha : t.all innerB = true) (hl : t.length ≤ 16) : lex t = ([⟨1, t, 0, 0⟩], 0, 0) := by
  have hb : blankB (t.getD 0 0) = false := by
    unfold smallB at hs; unfold blankB
    simp only [Bool.and_eq_true, decide_eq_true_eq] at hs
    exact beq_eq_false_iff_ne.2 (by omega)
  have hp := (pend_all (p := innerB) t).2 ha
  have ht : tokenAt t 0 = .ok (1, t, 0, t.length) := by
    unfold tokenAt
    rw [if_pos hs, hp, if_neg (by omega)]
    have : pathGo t (t.length + 1) t.length 1 = some (1, t.length) := by
      unfold pathGo
      rw [if_neg (by omega)]
    rw [this]
    dsimp only
    rw [if_neg (by omega), cut_all]
  obtain ⟨n, hn⟩ : ∃ n, t.length = n + 1 := ⟨t.length - 1, by omega⟩
  unfold lex
  rw [lexGo, pend_stop h0 hb, if_neg (by omega), if_neg (by simp), ht]
  dsimp only
  rw [hn, lexGo, pend_end (by omega), if_pos (by omega)]
  rfl
theorem cut_get0 {L : List UInt8} {i e : Nat} (h : i < e) (he : e ≤ L.length) : (cut L i e).getD 0 0 = L.getD i 0 := by
  unfold cut
  simp only [List.getD_eq_getElem?_getD]
  rw [List.getElem?_drop, Nat.add_zero, List.getElem?_take_of_lt h]
theorem cut_inner {p : UInt8 → Bool} (L : List UInt8) (i : Nat) : (cut L i (pend p L i)).all p = true := by rw [cut_pend]; exact takeWhile_all_true _
theorem tokenAt_ok {L : List UInt8} {i : Nat} {k : Int} {t : List UInt8} {n : Int} {e : Nat} (hi : i < L.length) (h : tokenAt L i = .ok (k, t, n, e)) (p : Nat) : TokOk (Tk.s32 ⟨k, t, n, p⟩) := by
  unfold tokenAt at h
  split at h
  · rename_i hs
    split at h
    · cases h
    · rename_i h16
      split at h
      · cases h
      · rename_i k' e' hp
        split at h
        · cases h
        · simp only [Except.ok.injEq, Prod.mk.injEq] at h
          obtain ⟨rfl, rfl, rfl, rfl⟩ := h
          have hk : k' = 1 ∨ k' = 2 := by
            unfold pathGo at hp
            split at hp
            · split at hp
              · cases hp
              · exact Or.inr (pathGo_two _ _ _ _ _ hp)
            · simp only [Option.some.injEq, Prod.mk.injEq] at hp
              exact Or.inl hp.1.symm
          refine ⟨fun h => ?_, fun h => ?_, fun h hm => ?_⟩
          · replace h : k' = 3 := h
            omega
          · replace h : k' = 4 := h
            omega
          · replace h : k' = 1 := h
            subst h
            have he := pathGo_one hp
            subst he
            have h2 := pend_step (p := innerB) hi (small_inner hs)
            have h3 := le_pend innerB L (i + 1)
            have h4 := pend_le (p := innerB) (L := L) (i := i) (by omega)
            replace hm : ¬ (cut L i (pend innerB L i)) ∈ meanWords := hm
            show nameT ⟨(cut L i (pend innerB L i)).toArray⟩ = true
            unfold nameT
            have hlen : (cut L i (pend innerB L i)).length = pend innerB L i - i := cut_length h4
            have hw := lex_word (cut L i (pend innerB L i)) (by omega) (by rw [cut_get0 (by omega) h4]; exact hs) (cut_inner L i) (by omega)
            dsimp only
            rw [hw]
            simp [hm]
  · split at h
    · split at h
      · cases h
      · split at h
        · cases h
        · rename_i r hn
          simp only [Except.ok.injEq, Prod.mk.injEq] at h
          obtain ⟨rfl, rfl, rfl, rfl⟩ := h
          exact ⟨fun _ => numFold_le _ 0 _ (by omega) (by omega) (cut_inner L i) hn, fun h => absurd (show (3 : Int) = 4 from h) (by decide), fun h => absurd (show (3 : Int) = 1 from h) (by decide)⟩
    · split at h
      · split at h
        · cases h
        · rename_i hnl
          split at h
          · cases h
          · rename_i h48
            split at h
            · rename_i hpl
              simp only [Except.ok.injEq, Prod.mk.injEq] at h
              obtain ⟨rfl, rfl, rfl, rfl⟩ := h
              refine ⟨fun h => absurd (show (4 : Int) = 3 from h) (by decide), fun _ => ?_, fun h => absurd (show (4 : Int) = 1 from h) (by decide)⟩
              show ((cut L (i + 1) (pend noQuoteB L (i + 1))).all val_Plain.ok && decide ((⟨(cut L (i + 1) (pend noQuoteB L (i + 1))).toArray⟩ : ByteArray).size ≤ 48)) = true
              rw [hpl, size_mk, cut_length (by omega), decide_eq_true (by omega)]; rfl
            · cases h
      · split at h
        · simp only [Except.ok.injEq, Prod.mk.injEq] at h
          obtain ⟨rfl, rfl, rfl, rfl⟩ := h
          exact ⟨fun h => absurd (show (5 : Int) = 3 from h) (by decide), fun h => absurd (show (5 : Int) = 4 from h) (by decide), fun h => absurd (show (5 : Int) = 1 from h) (by decide)⟩
        · cases h
theorem lexGo_all (P : Tk → Prop) (L : List UInt8) (hP : ∀ (i : Nat) (k : Int) (t : List UInt8) (n : Int) (e p : Nat), i < L.length → tokenAt L i = .ok (k, t, n, e) → P ⟨k, t, n, p⟩) : ∀ (f i : Nat) (out : List Tk), (∀ t ∈ out, P t) → ∀ t ∈ (lexGo L f i out).1, P t
  | 0, i, out, ho => by simp [lexGo]
  | f + 1, i, out, ho => by
    simp only [lexGo]
    split
    · exact ho
    · rename_i hlt
      split
      · simp
      · cases ht : tokenAt L (pend blankB L i) with
        | error e => simp
        | ok x =>
          obtain ⟨k, t, n, e⟩ := x
          dsimp only
          refine lexGo_all P L hP f e _ (fun t' h => ?_)
          rcases List.mem_append.1 h with h | h
          · exact ho _ h
          · rw [List.mem_singleton.1 h]
            exact hP _ k t n e _ (by omega) ht
theorem lex_tokOk (L : List UInt8) : ∀ t ∈ (lex L).1, TokOk t.s32 := lexGo_all (fun t => TokOk t.s32) L (fun i k t n e p hi h => tokenAt_ok hi h p) _ _ _ (by simp)
theorem lex_nextT (L : List UInt8) (i : Nat) (h : i < ((lex L).1.map Tk.s32).length) : TokOk (nextT ((lex L).1.map Tk.s32) i) := by
  rw [nextT_at h, List.getElem_map]
  exact lex_tokOk L _ (List.getElem_mem _)
end Go.Proofs.YtbngfhlciebeeaaDoor.Sp
end
