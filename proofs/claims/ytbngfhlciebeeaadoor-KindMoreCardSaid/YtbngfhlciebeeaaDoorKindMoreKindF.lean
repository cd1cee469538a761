/- Printed and hand-written steps towards the row (KindMore), those that it reaches. -/
import Derived.Test.YtbngfhlciebeeaaDoorKindMoreG33
namespace Go.Proofs.YtbngfhlciebeeaaDoor.Sp
set_option linter.unusedVariables false
set_option linter.unusedSimpArgs false
open Go.RowKit Go.Proofs.YtbngfhlciebeeaaDoorW.PrintWords Go.Proofs.YtbngfhlciebeeaaDoorW.PrintMore Go.Proofs.YtbngfhlciebeeaaDoor.L
section
variable {l : List S156} {vs : List S118} {ss : List ByteArray}
theorem ofk_one {b : Nat} {x : S156} (h : l[b + 1]? = some x) (o : x.f0 = 1 ∨ x.f0 = 2) (h3 : x.f3 = (b : Int)) {ka ea aa : Int} (r1 : Ev (fun k => whirligigref04_Of.f k (l.map ref159) (b : Int) (vs.map v151) ss) (ka, ea, aa)) :
    Ev (fun k => whirligigref04_Of.f k (l.map ref159) ((b + 1 : Nat) : Int) (vs.map v151) ss) (if ea = 0 then (if resK x.f0 ka 0 = 0 then (0, 20, ((b + 1 : Nat) : Int)) else (resK x.f0 ka 0, 0, 0)) else (0, ea, aa)) := by
  have hb := (List.getElem?_eq_some_iff.1 h).1
  have hx : l[b + 1] = x := (List.getElem?_eq_some_iff.1 h).2
  have hm : (l.map ref159).length = l.length := List.length_map ..
  have ho : 1 ≤ x.f0 ∧ x.f0 ≤ 15 := by omega
  refine Ev.succ ?_
  simp only [whirligigref04_Of.f]
  rw [rd159 hb, hx]
  refine Ev.pos (by omega) (Ev.pos (by omega) (Ev.neg (show ¬ x.f0 = 0 by omega) (Ev.neg (show ¬ x.f0 = 16 by omega) (Ev.neg (show ¬ x.f0 = 17 by omega) ?_))))
  refine Ev.bind (a := (ka, ea, aa)) (by rw [show (ref159 x).f3 = (b : Int) from h3]; exact r1) ?_
  have hd : decide ((ref159 x).f0 > 2) = false := decide_eq_false (show ¬ x.f0 > 2 by omega)
  by_cases e : ea = 0
  · rw [if_pos e]
    refine Ev.pos e (Ev.succ ?_)
    simp only [whirligigref04_Of.j2]
    rw [hd]
    refine Ev.neg (by decide) (Ev.succ ?_)
    simp only [whirligigref04_Of.j3]
    refine Ev.pos e (Ev.bind (rResult_ev ho ka 0) ?_)
    by_cases g : resK x.f0 ka 0 = 0
    · exact Ev.pos g (Ev.some (if_pos g).symm)
    · exact Ev.neg g (Ev.some (if_neg g).symm)
  · rw [if_neg e]
    refine Ev.neg e (Ev.succ ?_)
    simp only [whirligigref04_Of.j2]
    refine Ev.neg (by decide) (Ev.succ ?_)
    simp only [whirligigref04_Of.j3]
    exact Ev.neg e (Ev.some rfl)
theorem ofk_two {b c : Nat} {x : S156} (h : l[b + 1]? = some x) (o : 3 ≤ x.f0 ∧ x.f0 ≤ 15) (h3 : x.f3 = (c : Int)) (h4 : x.f4 = (b : Int)) {ka ea aa kb eb ab : Int} (r1 : Ev (fun k => whirligigref04_Of.f k (l.map ref159) (c : Int) (vs.map v151) ss) (ka, ea, aa))
    (q1 : Ev (fun k => whirligigref04_Of.f k (l.map ref159) (b : Int) (vs.map v151) ss) (kb, eb, ab)) :
    Ev (fun k => whirligigref04_Of.f k (l.map ref159) ((b + 1 : Nat) : Int) (vs.map v151) ss) (if ea = 0 then (if eb = 0 then (if resK x.f0 ka kb = 0 then (0, 20, ((b + 1 : Nat) : Int)) else (resK x.f0 ka kb, 0, 0)) else (0, eb, ab)) else (0, ea, aa)) := by
  have hb := (List.getElem?_eq_some_iff.1 h).1
  have hx : l[b + 1] = x := (List.getElem?_eq_some_iff.1 h).2
  have hm : (l.map ref159).length = l.length := List.length_map ..
  have ho : 1 ≤ x.f0 ∧ x.f0 ≤ 15 := by omega
  refine Ev.succ ?_
  simp only [whirligigref04_Of.f]
  rw [rd159 hb, hx]
  refine Ev.pos (by omega) (Ev.pos (by omega) (Ev.neg (show ¬ x.f0 = 0 by omega) (Ev.neg (show ¬ x.f0 = 16 by omega) (Ev.neg (show ¬ x.f0 = 17 by omega) ?_))))
  refine Ev.bind (a := (ka, ea, aa)) (by rw [show (ref159 x).f3 = (c : Int) from h3]; exact r1) ?_
  have hd : decide ((ref159 x).f0 > 2) = true := decide_eq_true (show x.f0 > 2 by omega)
  by_cases e : ea = 0
  · rw [if_pos e]
    refine Ev.pos e (Ev.succ ?_)
    simp only [whirligigref04_Of.j2]
    rw [hd]
    refine Ev.pos rfl (Ev.bind (a := (kb, eb, ab)) (by rw [show (ref159 x).f4 = (b : Int) from h4]; exact q1) (Ev.succ ?_))
    simp only [whirligigref04_Of.j3]
    by_cases e2 : eb = 0
    · rw [if_pos e2]
      refine Ev.pos e2 (Ev.bind (rResult_ev ho ka kb) ?_)
      by_cases g : resK x.f0 ka kb = 0
      · exact Ev.pos g (Ev.some (if_pos g).symm)
      · exact Ev.neg g (Ev.some (if_neg g).symm)
    · rw [if_neg e2]
      exact Ev.neg e2 (Ev.some rfl)
  · rw [if_neg e]
    refine Ev.neg e (Ev.succ ?_)
    simp only [whirligigref04_Of.j2]
    refine Ev.neg (by decide) (Ev.succ ?_)
    simp only [whirligigref04_Of.j3]
    exact Ev.neg e (Ev.some rfl)
end
theorem look_more (s : ByteArray) (vs' : List S118) : ∀ (vs : List S118) (k : Int), lookV s vs = some k → lookV s (vs ++ vs') = some k
  | [], k, h => by cases h
  | v :: vs, k, h => by
    simp only [List.cons_append, lookV] at h ⊢
    by_cases hv : v.f0 = s
    · rw [if_pos hv] at h ⊢; exact h
    · rw [if_neg hv] at h ⊢; exact look_more s vs' vs k h
theorem has_more (s : ByteArray) (ss' : List ByteArray) : ∀ (ss : List ByteArray), hasS s ss = true → hasS s (ss ++ ss') = true
  | [], h => by cases h
  | x :: ss, h => by
    rw [List.cons_append, hasS_cons] at *
    cases hx : decide (x = s) with
    | true => rfl
    | false => rw [hx] at h; exact has_more s ss' ss h
theorem kind_more {l : List S156} {vs vs' : List S118} {ss ss' : List ByteArray} (hl : l.length ≤ 1000) (hvs : vs.length ≤ 200) (hvs' : vs'.length ≤ 200) (hss : ss.length ≤ 200) (hss' : ss'.length ≤ 200) (hok : ∀ (j : Nat) (x : S156), l[j]? = some x → NodeOk x j) {a b : Nat} (s : Seg l a b) :
    ∃ kd err at_, Ev (fun k => whirligigref04_Of.f k (l.map ref159) (b : Int) (vs.map v151) ss) (kd, err, at_) ∧ (err = 0 → ∃ at2, Ev (fun k => whirligigref04_Of.f k (l.map ref159) (b : Int) ((vs ++ vs').map v151) (ss ++ ss')) (kd, 0, at2)) := by
  have hm : (l.map ref159).length = l.length := List.length_map ..
  induction s with
  | @leaf b x h o =>
    have hb := (List.getElem?_eq_some_iff.1 h).1
    have hx : l[b] = x := (List.getElem?_eq_some_iff.1 h).2
    rcases o with o | o | o
    · have key : ∀ (ws : List S118) (ts : List ByteArray), Ev (fun k => whirligigref04_Of.f k (l.map ref159) (b : Int) (ws.map v151) ts) (x.f1.f0, 0, 0) := fun ws ts => Ev.succ (by
        simp only [whirligigref04_Of.f]
        rw [rd159 hb, hx]
        exact Ev.pos (by omega) (Ev.pos (by omega) (Ev.pos o (Ev.some rfl))))
      exact ⟨x.f1.f0, 0, 0, key _ _, fun _ => ⟨0, key _ _⟩⟩
    · have ho : ¬ x.f0 = 0 := by omega
      have key : ∀ (ws : List S118) (ts : List ByteArray), ws.length ≤ 1000 → Ev (fun k => whirligigref04_Of.f k (l.map ref159) (b : Int) (ws.map v151) ts) (match lookV x.f2 ws with | some k => (k, 0, 0) | none => (0, 24, (b : Int))) := fun ws ts hw => by
        have hr := rfind_l0 (b : Int) ws hw x ws.length 0 (by omega) (by omega)
        rw [List.drop_zero] at hr
        refine Ev.succ ?_
        simp only [whirligigref04_Of.f]
        rw [rd159 hb, hx]
        exact Ev.pos (by omega) (Ev.pos (by omega) (Ev.neg ho (Ev.pos o hr)))
      have h1 := key vs ss (by omega)
      have h2 := key (vs ++ vs') (ss ++ ss') (by rw [List.length_append]; omega)
      cases hlk : lookV x.f2 vs with
      | none =>
        rw [hlk] at h1
        exact ⟨0, 24, _, h1, fun h => absurd h (by decide)⟩
      | some kd =>
        rw [hlk] at h1
        rw [look_more _ vs' vs kd hlk] at h2
        exact ⟨kd, 0, 0, h1, fun _ => ⟨0, h2⟩⟩
    · have ho : ¬ x.f0 = 0 := by omega
      have ho' : ¬ x.f0 = 16 := by omega
      have key : ∀ (ws : List S118) (ts : List ByteArray), ts.length ≤ 1000 → Ev (fun k => whirligigref04_Of.f k (l.map ref159) (b : Int) (ws.map v151) ts) (if hasS x.f2 ts = true then (2, 0, 0) else (0, 24, (b : Int))) := fun ws ts hw => by
        have hr := rfind_l1 (b : Int) ts (by omega) x ts.length 0 (by omega) (by omega)
        rw [List.drop_zero] at hr
        refine Ev.succ ?_
        simp only [whirligigref04_Of.f]
        rw [rd159 hb, hx]
        exact Ev.pos (by omega) (Ev.pos (by omega) (Ev.neg ho (Ev.neg ho' (Ev.pos o hr))))
      have h1 := key vs ss (by omega)
      have h2 := key (vs ++ vs') (ss ++ ss') (by rw [List.length_append]; omega)
      by_cases g : hasS x.f2 ss = true
      · rw [if_pos g] at h1
        rw [if_pos (has_more _ ss' ss g)] at h2
        exact ⟨2, 0, 0, h1, fun _ => ⟨0, h2⟩⟩
      · rw [if_neg g] at h1
        exact ⟨0, 24, _, h1, fun h => absurd h (by decide)⟩
  | @one a b x h o h3 s ih =>
    obtain ⟨ka, ea, aa, r1, r2⟩ := ih
    have hof := ofk_one h o h3 r1
    by_cases e : ea = 0
    · rw [if_pos e] at hof
      by_cases g : resK x.f0 ka 0 = 0
      · rw [if_pos g] at hof
        exact ⟨_, _, _, hof, fun h => absurd h (by decide)⟩
      · rw [if_neg g] at hof
        obtain ⟨a2, q⟩ := r2 e
        have hof2 := ofk_one h o h3 q
        rw [if_pos rfl, if_neg g] at hof2
        exact ⟨_, _, _, hof, fun _ => ⟨_, hof2⟩⟩
    · rw [if_neg e] at hof
      exact ⟨_, _, _, hof, fun h => absurd h e⟩
  | @two a b c x h o h3 h4 s t i1 i2 =>
    obtain ⟨ka, ea, aa, r1, r2⟩ := i1
    obtain ⟨kb, eb, ab, q1, q2⟩ := i2
    have hof := ofk_two h o h3 h4 r1 q1
    by_cases e : ea = 0
    · rw [if_pos e] at hof
      by_cases e2 : eb = 0
      · rw [if_pos e2] at hof
        by_cases g : resK x.f0 ka kb = 0
        · rw [if_pos g] at hof
          exact ⟨_, _, _, hof, fun h => absurd h (by decide)⟩
        · rw [if_neg g] at hof
          obtain ⟨a2, p1⟩ := r2 e
          obtain ⟨a3, p2⟩ := q2 e2
          have hof2 := ofk_two h o h3 h4 p1 p2
          rw [if_pos rfl, if_pos rfl, if_neg g] at hof2
          exact ⟨_, _, _, hof, fun _ => ⟨_, hof2⟩⟩
      · rw [if_neg e2] at hof
        exact ⟨_, _, _, hof, fun h => absurd h e2⟩
    · rw [if_neg e] at hof
      exact ⟨_, _, _, hof, fun h => absurd h e⟩
theorem Of_more {l : List S156} {vs vs' : List S118} {ss ss' : List ByteArray} (g : GoodE l) (hvs : vs.length ≤ 200) (hvs' : vs'.length ≤ 200) (hss : ss.length ≤ 200) (hss' : ss'.length ≤ 200) {kd : Int} (h : Ev (fun k => kind_Of.f k l vs ss) (kd, 0)) :
    Ev (fun k => kind_Of.f k l (vs ++ vs') (ss ++ ss')) (kd, 0) := by
  have h0 := g.ne
  obtain ⟨k1, e1, a1, p1, _, p2⟩ := Of_ev (vs := vs) (ss := ss) g (by omega) (by omega)
  obtain ⟨k2, e2, a2, q1, _, q2⟩ := Of_ev (vs := vs ++ vs') (ss := ss ++ ss') g (by rw [List.length_append]; omega) (by rw [List.length_append]; omega)
  obtain ⟨k3, e3, a3, m1, m2⟩ := kind_more (vs' := vs') (ss' := ss') (by have := g.le; omega) hvs hvs' hss hss' g.ok g.seg
  rw [show (l.length : Int) - 1 = ((l.length - 1 : Nat) : Int) by omega] at p1 q1
  have u1 := p2.uniq h
  have u2 := m1.uniq p1
  simp only [Prod.mk.injEq] at u1 u2
  obtain ⟨a4, m3⟩ := m2 (by omega)
  have u3 := m3.uniq q1
  simp only [Prod.mk.injEq] at u3
  rw [show kd = k2 by omega, show (0 : Int) = e2 by omega]
  exact q2
end Go.Proofs.YtbngfhlciebeeaaDoor.Sp
