/- Printed and hand-written steps towards the row (KindOf), those that it reaches. -/
import Derived.Test.YtbngfhlciebeeaaDoorKindOfG35
namespace Go.Proofs.YtbngfhlciebeeaaDoor.Sp
set_option linter.unusedVariables false
set_option linter.unusedSimpArgs false
open Go.RowKit Go.Proofs.YtbngfhlciebeeaaDoorW.PrintWords Go.Proofs.YtbngfhlciebeeaaDoorW.PrintMore Go.Proofs.YtbngfhlciebeeaaDoor.L
theorem NodeOk.cases_op {x : S156} {j : Nat} (h : NodeOk x j) : x.f0 = 0 ∨ x.f0 = 16 ∨ x.f0 = 17 ∨ ((x.f0 = 1 ∨ x.f0 = 2) ∧ x.f3 = (j : Int) - 1 ∧ x.f4 = 0 ∧ 1 ≤ j) ∨ ((3 ≤ x.f0 ∧ x.f0 ≤ 15) ∧ 0 ≤ x.f3 ∧ x.f3 < (j : Int) ∧ x.f4 = (j : Int) - 1) := by
  cases h with
  | lit v h h1 => exact Or.inl rfl
  | name op s o h => exact o.elim (fun h => Or.inr (Or.inl h)) (fun h => Or.inr (Or.inr (Or.inl h)))
  | one op o h1 => exact Or.inr (Or.inr (Or.inr (Or.inl ⟨o, rfl, rfl, h1⟩)))
  | two op c o h0 h1 => exact Or.inr (Or.inr (Or.inr (Or.inr ⟨o, h0, h1, rfl⟩)))
theorem rdI (l : List Int) (j : Nat) : rd l (j : Int) = l.getD j 0 := rfl
section
variable {l : List S156} {vs : List S118} {ss : List ByteArray}
theorem kind_step {ks : List Int} {j : Nat} {x : S156} (hl : l.length ≤ 1000) (hx : l[j]? = some x) (hk : ks.length = l.length) {kd e : Int} {R : Int × Int}
    (hn : Ev (fun k => kind_Scope_node.f k vs ss x.f0 x.f1.f0 x.f1.f1 x.f1.f2 x.f2 x.f3 x.f4 ks) (kd, e))
    (h0 : e = 0 → Ev (fun k => kind_Of.l0 k l (ks.set j kd) l (l.length : Int) ((j + 1 : Nat) : Int) vs ss) R) (h1 : e ≠ 0 → R = (0, e)) :
    Ev (fun k => kind_Of.l0 k l ks l (l.length : Int) (j : Int) vs ss) R := by
  have hj := (List.getElem?_eq_some_iff.1 hx).1
  have hx' : l[j] = x := (List.getElem?_eq_some_iff.1 hx).2
  refine Ev.succ ?_
  simp only [kind_Of.l0]
  rw [rd156 hj, hx', up1 (by omega)]
  refine Ev.pos (by omega) (Ev.pos (by omega) (Ev.pos (by omega) (Ev.bind hn ?_)))
  by_cases he : e = 0
  · exact Ev.pos he (Ev.pos (by omega) (h0 he))
  · exact Ev.neg he (Ev.some (h1 he).symm)
theorem node_op {ks : List Int} {x : S156} {i j : Nat} (ho : 1 ≤ x.f0 ∧ x.f0 ≤ 15) (h3 : x.f3 = (i : Int)) (h4 : x.f4 = (j : Int)) (hi : i < ks.length) (hj : j < ks.length) :
    Ev (fun k => kind_Scope_node.f k vs ss x.f0 x.f1.f0 x.f1.f1 x.f1.f2 x.f2 x.f3 x.f4 ks) (if resK x.f0 (ks.getD i 0) (ks.getD j 0) = 0 then (0, 20) else (resK x.f0 (ks.getD i 0) (ks.getD j 0), 0)) := by
  unfold kind_Scope_node.f
  rw [h3, h4, rdI, rdI]
  have hv := vres_is ho (ks.getD i 0) (ks.getD j 0)
  refine Ev.neg (by omega) (Ev.neg (by omega) (Ev.neg (by omega) (Ev.pos (by omega) (Ev.pos (by omega) (Ev.pos (by omega) (Ev.pos (by omega) (Ev.bind (vResult_ev ho _ _) ?_)))))))
  cases hb : (vres x.f0 (ks.getD i 0) (ks.getD j 0)).2 with
  | true =>
    obtain ⟨h1, h2⟩ := hv.1 hb
    rw [if_neg h2]
    exact Ev.pos rfl (Ev.some (by rw [h1]))
  | false =>
    rw [if_pos (hv.2 hb)]
    exact Ev.neg (by decide) (Ev.some rfl)
theorem kind_seg (hl : l.length ≤ 1000) (hvs : vs.length ≤ 1000) (hss : ss.length ≤ 1000) (hok : ∀ (j : Nat) (x : S156), l[j]? = some x → NodeOk x j) {a b : Nat} (s : Seg l a b) :
    ∃ kd err at_, Ev (fun k => whirligigref04_Of.f k (l.map ref159) (b : Int) (vs.map v151) ss) (kd, err, at_) ∧ (err ≠ 0 → kd = 0) ∧
      ∀ (ks : List Int) (R : Int × Int), ks.length = l.length →
        (err = 0 → ∀ ks' : List Int, ks'.length = l.length → (∀ j, j < a → ks'.getD j 0 = ks.getD j 0) → ks'.getD b 0 = kd → Ev (fun k => kind_Of.l0 k l ks' l (l.length : Int) ((b + 1 : Nat) : Int) vs ss) R) →
        (err ≠ 0 → R = (0, err)) → Ev (fun k => kind_Of.l0 k l ks l (l.length : Int) (a : Int) vs ss) R := by
  have getD_set : ∀ (ks : List Int) (j i : Nat) (v : Int), j < ks.length → (ks.set j v).getD i 0 = if i = j then v else ks.getD i 0 := fun ks j i v h => by
    simp only [List.getD_eq_getElem?_getD, List.getElem?_set]
    by_cases e : j = i
    · subst e; simp [h]
    · rw [if_neg e, if_neg (Ne.symm e)]
  have hm : (l.map ref159).length = l.length := List.length_map ..
  induction s with
  | @leaf b x h o =>
    have hb := (List.getElem?_eq_some_iff.1 h).1
    have hx : l[b] = x := (List.getElem?_eq_some_iff.1 h).2
    -- what the node comes to on either side
    have key : ∃ kd err at_, Ev (fun k => whirligigref04_Of.f k (l.map ref159) (b : Int) (vs.map v151) ss) (kd, err, at_) ∧ (err ≠ 0 → kd = 0) ∧ ∀ ks : List Int, Ev (fun k => kind_Scope_node.f k vs ss x.f0 x.f1.f0 x.f1.f1 x.f1.f2 x.f2 x.f3 x.f4 ks) (kd, err) := by
      rcases o with o | o | o
      · refine ⟨x.f1.f0, 0, 0, Ev.succ ?_, fun h => absurd rfl h, fun ks => ?_⟩
        · simp only [whirligigref04_Of.f]
          rw [rd159 hb, hx]
          exact Ev.pos (by omega) (Ev.pos (by omega) (Ev.pos o (Ev.some rfl)))
        · unfold kind_Scope_node.f
          exact Ev.pos o (Ev.some rfl)
      · have hr := rfind_l0 (b : Int) vs hvs x vs.length 0 (by omega) (by omega)
        rw [List.drop_zero] at hr
        have hf := find_eq vs ss x.f2
        have ho : ¬ x.f0 = 0 := by omega
        cases hlk : lookV x.f2 vs with
        | none =>
          rw [hlk] at hr hf
          refine ⟨0, 24, (b : Int), Ev.succ ?_, fun _ => rfl, fun ks => ?_⟩
          · simp only [whirligigref04_Of.f]
            rw [rd159 hb, hx]
            exact Ev.pos (by omega) (Ev.pos (by omega) (Ev.neg ho (Ev.pos o hr)))
          · unfold kind_Scope_node.f
            exact Ev.neg ho (Ev.pos o (Ev.bind_some hf (Ev.neg (by decide) (Ev.some rfl))))
        | some kd =>
          rw [hlk] at hr hf
          refine ⟨kd, 0, 0, Ev.succ ?_, fun h => absurd rfl h, fun ks => ?_⟩
          · simp only [whirligigref04_Of.f]
            rw [rd159 hb, hx]
            exact Ev.pos (by omega) (Ev.pos (by omega) (Ev.neg ho (Ev.pos o hr)))
          · unfold kind_Scope_node.f
            exact Ev.neg ho (Ev.pos o (Ev.bind_some hf (Ev.pos rfl (Ev.some rfl))))
      · have hr := rfind_l1 (b : Int) ss (by omega) x ss.length 0 (by omega) (by omega)
        rw [List.drop_zero] at hr
        have hf := contains_ev ss (by omega) x.f2
        have ho : ¬ x.f0 = 0 := by omega
        have ho' : ¬ x.f0 = 16 := by omega
        cases hlk : hasS x.f2 ss with
        | false =>
          rw [hlk] at hr hf
          refine ⟨0, 24, (b : Int), Ev.succ ?_, fun _ => rfl, fun ks => ?_⟩
          · simp only [whirligigref04_Of.f]
            rw [rd159 hb, hx]
            exact Ev.pos (by omega) (Ev.pos (by omega) (Ev.neg ho (Ev.neg ho' (Ev.pos o hr))))
          · unfold kind_Scope_node.f
            exact Ev.neg ho (Ev.neg ho' (Ev.pos o (Ev.bind hf (Ev.neg (by decide) (Ev.some rfl)))))
        | true =>
          rw [hlk] at hr hf
          refine ⟨2, 0, 0, Ev.succ ?_, fun h => absurd rfl h, fun ks => ?_⟩
          · simp only [whirligigref04_Of.f]
            rw [rd159 hb, hx]
            exact Ev.pos (by omega) (Ev.pos (by omega) (Ev.neg ho (Ev.neg ho' (Ev.pos o hr))))
          · unfold kind_Scope_node.f
            exact Ev.neg ho (Ev.neg ho' (Ev.pos o (Ev.bind hf (Ev.pos rfl (Ev.some rfl)))))
    obtain ⟨kd, err, at_, h1, h2, h3⟩ := key
    refine ⟨kd, err, at_, h1, h2, fun ks R hk h4 h5 => kind_step hl h hk (h3 ks) (fun e => h4 e _ (by simp [hk]) (fun j hj => ?_) ?_) h5⟩
    · rw [getD_set _ _ _ _ (by omega), if_neg (by omega)]
    · rw [getD_set _ _ _ _ (by omega), if_pos rfl]
  | @one a b x h o h3 s ih =>
    have hb := (List.getElem?_eq_some_iff.1 h).1
    have hx : l[b + 1] = x := (List.getElem?_eq_some_iff.1 h).2
    have hle := s.le
    obtain ⟨ka, ea, aa, r1, r2, r3⟩ := ih
    have h4 : x.f4 = ((0 : Nat) : Int) := by
      rcases (hok _ _ h).cases_op with h | h | h | h | h <;> omega
    have ho : 1 ≤ x.f0 ∧ x.f0 ≤ 15 := by omega
    -- the document
    have hres : resK x.f0 ka 0 = resK x.f0 ka 0 := rfl
    have hdoc : Ev (fun k => whirligigref04_Of.f k (l.map ref159) ((b + 1 : Nat) : Int) (vs.map v151) ss) (if ea = 0 then (if resK x.f0 ka 0 = 0 then (0, 20, ((b + 1 : Nat) : Int)) else (resK x.f0 ka 0, 0, 0)) else (0, ea, aa)) := by
      refine Ev.succ ?_
      simp only [whirligigref04_Of.f]
      rw [rd159 hb, hx]
      refine Ev.pos (by omega) (Ev.pos (by omega) (Ev.neg (show ¬ x.f0 = 0 by omega) (Ev.neg (show ¬ x.f0 = 16 by omega) (Ev.neg (show ¬ x.f0 = 17 by omega) ?_))))
      refine Ev.bind (a := (ka, ea, aa)) (by rw [show (ref159 x).f3 = (b : Int) from h3]; exact r1) ?_
      have hd : decide ((ref159 x).f0 > 2) = false := decide_eq_false (show ¬ x.f0 > 2 by omega)
      by_cases e : ea = 0
      · rw [if_pos e]
        refine Ev.pos e (Ev.succ ?_)
        simp only [whirligigref04_Of.j2]
        rw [hd]
        refine Ev.neg (by decide) (Ev.succ ?_)
        simp only [whirligigref04_Of.j3]
        refine Ev.pos e (Ev.bind (rResult_ev ho ka 0) ?_)
        by_cases g : resK x.f0 ka 0 = 0
        · exact Ev.pos g (Ev.some (if_pos g).symm)
        · exact Ev.neg g (Ev.some (if_neg g).symm)
      · rw [if_neg e]
        refine Ev.neg e (Ev.succ ?_)
        simp only [whirligigref04_Of.j2]
        refine Ev.neg (by decide) (Ev.succ ?_)
        simp only [whirligigref04_Of.j3]
        exact Ev.neg e (Ev.some rfl)
    by_cases e : ea = 0
    · rw [if_pos e] at hdoc
      -- the kind does not hang on a second part
      have hany : ∀ y, resK x.f0 ka y = resK x.f0 ka 0 := fun y => by
        unfold resK
        rcases o with o | o
        · simp only [if_pos o]
        · have n1 : ¬ x.f0 = 1 := by omega
          simp only [if_neg n1, if_pos o]
      have cont : ∀ (kd err at_ : Int), (if resK x.f0 ka 0 = 0 then ((0 : Int), (20 : Int)) else (resK x.f0 ka 0, 0)) = (kd, err) → ∀ (ks : List Int) (R : Int × Int), ks.length = l.length →
        (err = 0 → ∀ ks' : List Int, ks'.length = l.length → (∀ j, j < a → ks'.getD j 0 = ks.getD j 0) → ks'.getD (b + 1) 0 = kd → Ev (fun k => kind_Of.l0 k l ks' l (l.length : Int) ((b + 1 + 1 : Nat) : Int) vs ss) R) →
        (err ≠ 0 → R = (0, err)) → Ev (fun k => kind_Of.l0 k l ks l (l.length : Int) (a : Int) vs ss) R := fun kd err at_ hke ks R hk c1 c2 => by
          refine r3 ks R hk (fun _ ks1 k1 k2 k3 => ?_) (fun h => absurd e h)
          have hn := node_op (vs := vs) (ss := ss) (ks := ks1) ho h3 h4 (by omega) (by omega)
          rw [k3, hany, hke] at hn
          refine kind_step hl h k1 hn (fun e0 => c1 e0 _ (by simp [k1]) (fun j hj => ?_) ?_) c2
          · rw [getD_set _ _ _ _ (by omega), if_neg (by omega), k2 j hj]
          · rw [getD_set _ _ _ _ (by omega), if_pos rfl]
      by_cases g : resK x.f0 ka 0 = 0
      · rw [if_pos g] at hdoc
        exact ⟨0, 20, _, hdoc, fun _ => rfl, cont 0 20 0 (if_pos g)⟩
      · rw [if_neg g] at hdoc
        exact ⟨_, 0, _, hdoc, fun h => absurd rfl h, cont _ 0 0 (if_neg g)⟩
    · rw [if_neg e] at hdoc
      exact ⟨0, ea, aa, hdoc, fun _ => rfl, fun ks R hk c1 c2 => r3 ks R hk (fun h => absurd h e) c2⟩
  | @two a b c x h o h3 h4 s t i1 i2 =>
    have hb := (List.getElem?_eq_some_iff.1 h).1
    have hx : l[b + 1] = x := (List.getElem?_eq_some_iff.1 h).2
    have hle := s.le
    have hle2 := t.le
    obtain ⟨ka, ea, aa, r1, r2, r3⟩ := i1
    obtain ⟨kb, eb, ab, q1, q2, q3⟩ := i2
    have ho : 1 ≤ x.f0 ∧ x.f0 ≤ 15 := by omega
    have hdoc : Ev (fun k => whirligigref04_Of.f k (l.map ref159) ((b + 1 : Nat) : Int) (vs.map v151) ss) (if ea = 0 then (if eb = 0 then (if resK x.f0 ka kb = 0 then (0, 20, ((b + 1 : Nat) : Int)) else (resK x.f0 ka kb, 0, 0)) else (0, eb, ab)) else (0, ea, aa)) := by
      refine Ev.succ ?_
      simp only [whirligigref04_Of.f]
      rw [rd159 hb, hx]
      refine Ev.pos (by omega) (Ev.pos (by omega) (Ev.neg (show ¬ x.f0 = 0 by omega) (Ev.neg (show ¬ x.f0 = 16 by omega) (Ev.neg (show ¬ x.f0 = 17 by omega) ?_))))
      refine Ev.bind (a := (ka, ea, aa)) (by rw [show (ref159 x).f3 = (c : Int) from h3]; exact r1) ?_
      have hd : decide ((ref159 x).f0 > 2) = true := decide_eq_true (show x.f0 > 2 by omega)
      by_cases e : ea = 0
      · rw [if_pos e]
        refine Ev.pos e (Ev.succ ?_)
        simp only [whirligigref04_Of.j2]
        rw [hd]
        refine Ev.pos rfl (Ev.bind (a := (kb, eb, ab)) (by rw [show (ref159 x).f4 = (b : Int) from h4]; exact q1) (Ev.succ ?_))
        simp only [whirligigref04_Of.j3]
        by_cases e2 : eb = 0
        · rw [if_pos e2]
          refine Ev.pos e2 (Ev.bind (rResult_ev ho ka kb) ?_)
          by_cases g : resK x.f0 ka kb = 0
          · exact Ev.pos g (Ev.some (if_pos g).symm)
          · exact Ev.neg g (Ev.some (if_neg g).symm)
        · rw [if_neg e2]
          exact Ev.neg e2 (Ev.some rfl)
      · rw [if_neg e]
        refine Ev.neg e (Ev.succ ?_)
        simp only [whirligigref04_Of.j2]
        refine Ev.neg (by decide) (Ev.succ ?_)
        simp only [whirligigref04_Of.j3]
        exact Ev.neg e (Ev.some rfl)
    by_cases e : ea = 0
    · rw [if_pos e] at hdoc
      by_cases e2 : eb = 0
      · rw [if_pos e2] at hdoc
        have cont : ∀ (kd err at_ : Int), (if resK x.f0 ka kb = 0 then ((0 : Int), (20 : Int)) else (resK x.f0 ka kb, 0)) = (kd, err) → ∀ (ks : List Int) (R : Int × Int), ks.length = l.length →
          (err = 0 → ∀ ks' : List Int, ks'.length = l.length → (∀ j, j < a → ks'.getD j 0 = ks.getD j 0) → ks'.getD (b + 1) 0 = kd → Ev (fun k => kind_Of.l0 k l ks' l (l.length : Int) ((b + 1 + 1 : Nat) : Int) vs ss) R) →
          (err ≠ 0 → R = (0, err)) → Ev (fun k => kind_Of.l0 k l ks l (l.length : Int) (a : Int) vs ss) R := fun kd err at_ hke ks R hk c1 c2 => by
            refine r3 ks R hk (fun _ ks1 k1 k2 k3 => q3 ks1 R k1 (fun _ ks2 m1 m2 m3 => ?_) (fun h => absurd e2 h)) (fun h => absurd e h)
            have hn := node_op (vs := vs) (ss := ss) (ks := ks2) ho h3 h4 (by omega) (by omega)
            rw [m3, m2 c (by omega), k3, hke] at hn
            refine kind_step hl h m1 hn (fun e0 => c1 e0 _ (by simp [m1]) (fun j hj => ?_) ?_) c2
            · rw [getD_set _ _ _ _ (by omega), if_neg (by omega), m2 j (by omega), k2 j hj]
            · rw [getD_set _ _ _ _ (by omega), if_pos rfl]
        by_cases g : resK x.f0 ka kb = 0
        · rw [if_pos g] at hdoc
          exact ⟨0, 20, _, hdoc, fun _ => rfl, cont 0 20 0 (if_pos g)⟩
        · rw [if_neg g] at hdoc
          exact ⟨_, 0, _, hdoc, fun h => absurd rfl h, cont _ 0 0 (if_neg g)⟩
      · rw [if_neg e2] at hdoc
        exact ⟨0, eb, ab, hdoc, fun _ => rfl, fun ks R hk c1 c2 => r3 ks R hk (fun _ ks1 k1 k2 k3 => q3 ks1 R k1 (fun h => absurd h e2) c2) (fun h => absurd e h)⟩
    · rw [if_neg e] at hdoc
      exact ⟨0, ea, aa, hdoc, fun _ => rfl, fun ks R hk c1 c2 => r3 ks R hk (fun h => absurd h e) c2⟩
theorem Of_ev (g : GoodE l) (hvs : vs.length ≤ 1000) (hss : ss.length ≤ 1000) : ∃ kd err at_, Ev (fun k => whirligigref04_Of.f k (l.map ref159) ((l.length : Int) - 1) (vs.map v151) ss) (kd, err, at_) ∧ (err ≠ 0 → kd = 0) ∧ Ev (fun k => kind_Of.f k l vs ss) (kd, err) := by
  have h0 := g.ne
  have h1 := g.le
  obtain ⟨kd, err, at_, r1, r2, r3⟩ := kind_seg (vs := vs) (ss := ss) (by omega) hvs hss g.ok g.seg
  refine ⟨kd, err, at_, by rw [show (l.length : Int) - 1 = ((l.length - 1 : Nat) : Int) by omega]; exact r1, r2, ?_⟩
  unfold kind_Of.f
  refine Ev.bind (right_good g) (Ev.pos rfl (Ev.pos (by omega) (Ev.pos (by omega) ?_)))
  refine r3 _ _ (by simp) (fun e ks' k1 _ k3 => ?_) (fun e => by rw [r2 e])
  refine Ev.succ ?_
  simp only [kind_Of.l0]
  rw [wrap_at (x := (l.length : Int) - 1) (by omega) (by omega), show (l.length : Int) - 1 = ((l.length - 1 : Nat) : Int) by omega, rdI, k3, e]
  exact Ev.neg (by omega) (Ev.pos (by omega) (Ev.pos (by omega) (Ev.some rfl)))
end
end Go.Proofs.YtbngfhlciebeeaaDoor.Sp
