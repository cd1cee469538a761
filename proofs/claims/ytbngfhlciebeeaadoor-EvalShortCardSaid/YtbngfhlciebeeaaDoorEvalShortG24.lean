/- Printed and hand-written steps towards the row (EvalShort), those that it reaches. -/
import Derived.Test.YtbngfhlciebeeaaDoorEvalShortG23
import Derived.Test.YtbngfhlciebeeaaDoorEvalShortG3
import Derived.Test.YtbngfhlciebeeaaDoorEvalShortG4
import Derived.Test.YtbngfhlciebeeaaDoorEvalShortG8
import Derived.Test.YtbngfhlciebeeaaDoorEvalShortG7
import Derived.KernelRfl
import Derived.Lib.FrozenHead2
import Derived.Lib.OthersKept
import Derived.Lib.Builder
import Derived.Shelf.Strings.BuilderX
import Derived.WalkKit
import Derived.BigCall
import Derived.Shelf.Strings.BuilderK
import Derived.Test.YtbngfhlciebeeaaDoorProg
import Derived.Test.YtbngfhlciebeeaaDoorEvalShortG14
section
namespace Go.Proofs.YtbngfhlciebeeaaDoor.Sp
set_option linter.unusedVariables false
set_option linter.unusedSimpArgs false
open Go.RowKit Go.Proofs.YtbngfhlciebeeaaDoorW.PrintWords Go.Proofs.YtbngfhlciebeeaaDoorW.PrintMore Go.Proofs.YtbngfhlciebeeaaDoor.L
def zV : S103 := ⟨0, 0, ⟨#[]⟩⟩
section
variable {l : List S156} {vs : List S118} {ss : List ByteArray}
theorem of_one {b : Nat} {x : S156} (h : l[b + 1]? = some x) (o : x.f0 = 1 ∨ x.f0 = 2) (h3 : x.f3 = (b : Int)) {ka ea aa : Int} (r1 : Ev (fun k => whirligigref04_Of.f k (l.map ref159) (b : Int) (vs.map v151) ss) (ka, ea, aa)) :
    Ev (fun k => whirligigref04_Of.f k (l.map ref159) ((b + 1 : Nat) : Int) (vs.map v151) ss) (if ea = 0 then (if resK x.f0 ka 0 = 0 then (0, 20, ((b + 1 : Nat) : Int)) else (resK x.f0 ka 0, 0, 0)) else (0, ea, aa)) := by
  have hb := (List.getElem?_eq_some_iff.1 h).1
  have hx : l[b + 1] = x := (List.getElem?_eq_some_iff.1 h).2
  have hm : (l.map ref159).length = l.length := List.length_map ..
  have ho : 1 ≤ x.f0 ∧ x.f0 ≤ 15 := by omega
  refine Ev.succ ?_
  simp only [whirligigref04_Of.f]
  rw [rd159 hb, hx]
  refine Ev.pos (by omega) (Ev.pos (by omega) (Ev.neg (show ¬ x.f0 = 0 by omega) (Ev.neg (show ¬ x.f0 = 16 by omega) (Ev.neg (show ¬ x.f0 = 17 by omega) ?_))))
  refine Ev.bind (a := (ka, ea, aa)) (by rw [show (ref159 x).f3 = (b : Int) from h3]; exact r1) ?_
  have hd : decide ((ref159 x).f0 > 2) = false := decide_eq_false (show ¬ x.f0 > 2 by omega)
  by_cases e : ea = 0
  · rw [if_pos e]
    refine Ev.pos e (Ev.succ ?_)
    simp only [whirligigref04_Of.j2]
    rw [hd]
    refine Ev.neg (by decide) (Ev.succ ?_)
    simp only [whirligigref04_Of.j3]
    refine Ev.pos e (Ev.bind (rResult_ev ho ka 0) ?_)
    by_cases g : resK x.f0 ka 0 = 0
    · exact Ev.pos g (Ev.some (if_pos g).symm)
    · exact Ev.neg g (Ev.some (if_neg g).symm)
  · rw [if_neg e]
    refine Ev.neg e (Ev.succ ?_)
    simp only [whirligigref04_Of.j2]
    refine Ev.neg (by decide) (Ev.succ ?_)
    simp only [whirligigref04_Of.j3]
    exact Ev.neg e (Ev.some rfl)
theorem of_two {b c : Nat} {x : S156} (h : l[b + 1]? = some x) (o : 3 ≤ x.f0 ∧ x.f0 ≤ 15) (h3 : x.f3 = (c : Int)) (h4 : x.f4 = (b : Int)) {ka ea aa kb eb ab : Int} (r1 : Ev (fun k => whirligigref04_Of.f k (l.map ref159) (c : Int) (vs.map v151) ss) (ka, ea, aa))
    (q1 : Ev (fun k => whirligigref04_Of.f k (l.map ref159) (b : Int) (vs.map v151) ss) (kb, eb, ab)) :
    Ev (fun k => whirligigref04_Of.f k (l.map ref159) ((b + 1 : Nat) : Int) (vs.map v151) ss) (if ea = 0 then (if eb = 0 then (if resK x.f0 ka kb = 0 then (0, 20, ((b + 1 : Nat) : Int)) else (resK x.f0 ka kb, 0, 0)) else (0, eb, ab)) else (0, ea, aa)) := by
  have hb := (List.getElem?_eq_some_iff.1 h).1
  have hx : l[b + 1] = x := (List.getElem?_eq_some_iff.1 h).2
  have hm : (l.map ref159).length = l.length := List.length_map ..
  have ho : 1 ≤ x.f0 ∧ x.f0 ≤ 15 := by omega
  refine Ev.succ ?_
  simp only [whirligigref04_Of.f]
  rw [rd159 hb, hx]
  refine Ev.pos (by omega) (Ev.pos (by omega) (Ev.neg (show ¬ x.f0 = 0 by omega) (Ev.neg (show ¬ x.f0 = 16 by omega) (Ev.neg (show ¬ x.f0 = 17 by omega) ?_))))
  refine Ev.bind (a := (ka, ea, aa)) (by rw [show (ref159 x).f3 = (c : Int) from h3]; exact r1) ?_
  have hd : decide ((ref159 x).f0 > 2) = true := decide_eq_true (show x.f0 > 2 by omega)
  by_cases e : ea = 0
  · rw [if_pos e]
    refine Ev.pos e (Ev.succ ?_)
    simp only [whirligigref04_Of.j2]
    rw [hd]
    refine Ev.pos rfl (Ev.bind (a := (kb, eb, ab)) (by rw [show (ref159 x).f4 = (b : Int) from h4]; exact q1) (Ev.succ ?_))
    simp only [whirligigref04_Of.j3]
    by_cases e2 : eb = 0
    · rw [if_pos e2]
      refine Ev.pos e2 (Ev.bind (rResult_ev ho ka kb) ?_)
      by_cases g : resK x.f0 ka kb = 0
      · exact Ev.pos g (Ev.some (if_pos g).symm)
      · exact Ev.neg g (Ev.some (if_neg g).symm)
    · rw [if_neg e2]
      exact Ev.neg e2 (Ev.some rfl)
  · rw [if_neg e]
    refine Ev.neg e (Ev.succ ?_)
    simp only [whirligigref04_Of.j2]
    refine Ev.neg (by decide) (Ev.succ ?_)
    simp only [whirligigref04_Of.j3]
    exact Ev.neg e (Ev.some rfl)
end
section
variable {l : List S156} {cs : List S116} {ss st : List ByteArray}
structure NodeEv (l : List S156) (cs : List S116) (ss : List ByteArray) (b : Nat) (v : S103) (err : Int) : Prop where
  prog : Ev (fun k => eval_machine_node.f k cs ss l (b : Int)) (v.f0, v.f1, v.f2, err)
  doc : Ev (fun k => whirligigref05_Eval.f k (l.map ref159) (b : Int) (cs.map c166) ss) (v.f0, v.f1, v.f2, err)
  ok : err = 0 → ValOk v ∧ Opn.I64 v.f1
  no : err ≠ 0 → v = zV
theorem node_reck {r : R4} {op ka kb : Int} {b : Nat} (hp : Ev (fun k => eval_machine_node.f k cs ss l (b : Int)) (if resK op ka kb = 0 then (0, 0, ⟨#[]⟩, 20) else r))
    (hd : Ev (fun k => whirligigref05_Eval.f k (l.map ref159) (b : Int) (cs.map c166) ss) (if resK op ka kb = 0 then (0, 0, ⟨#[]⟩, 20) else r)) (hc : resK op ka kb ≠ 0 → Comes r (resK op ka kb)) :
    ∃ v err, NodeEv l cs ss b v err ∧ (resK op ka kb ≠ 0 → (err = 0 → v.f0 = resK op ka kb) ∧ (err ≠ 0 → isErr err)) := by
  by_cases g : resK op ka kb = 0
  · rw [if_pos g] at hp hd
    exact ⟨zV, 20, ⟨hp, hd, fun h => absurd h (by decide), fun _ => rfl⟩, fun h => absurd g h⟩
  · rw [if_neg g] at hp hd
    obtain ⟨r1, r2, r3, r4⟩ := r
    rcases hc g with ⟨h1, h2, h3, h4⟩ | ⟨h1, h2, h3, h4⟩
    · exact ⟨⟨r1, r2, r3⟩, r4, ⟨hp, hd, fun _ => ⟨h2, h3⟩, fun h => absurd h1 h⟩, fun _ => ⟨fun _ => h4, fun h => absurd h1 h⟩⟩
    · simp only at h1 h2 h3 h4
      subst h2 h3 h4
      have hne : r4 ≠ 0 := by rcases h1 with h1 | h1 | h1 <;> omega
      exact ⟨zV, r4, ⟨hp, hd, fun h => absurd h hne, fun _ => rfl⟩, fun _ => ⟨fun h => absurd h hne, fun _ => h1⟩⟩
theorem reck_comes1 {op : Int} {a : S103} (ho : op = 1 ∨ op = 2) (hr : resK op a.f0 0 ≠ 0) : Comes (reckR op a zV) (resK op a.f0 0) := by
  have hk := resK_val (show 1 ≤ op ∧ op ≤ 15 by omega) hr
  rcases ho with rfl | rfl
  · rw [hk]; exact comes_tr _
  · rw [hk]; exact comes_ov _
theorem eval_seg (hl : l.length ≤ 1000) (hcs : cs.length ≤ 1000) (hss : ss.length ≤ 1000) (hst : st.length ≤ 1000) (hok : ∀ (j : Nat) (x : S156), l[j]? = some x → NodeOk x j) (hv : ∀ x ∈ cs, ValOk x.f1 ∧ Opn.I64 x.f1.f1) {a b : Nat} (s : Seg l a b) :
    ∃ v err, NodeEv l cs ss b v err ∧ ∀ kd at_, Ev (fun k => whirligigref04_Of.f k (l.map ref159) (b : Int) ((cs.map k118).map v151) st) (kd, 0, at_) → (err = 0 → v.f0 = kd) ∧ (err ≠ 0 → isErr err) := by
  have hm : (l.map ref159).length = l.length := List.length_map ..
  have hks : (cs.map k118).length ≤ 1000 := by rw [List.length_map]; exact hcs
  induction s with
  | @leaf b x h o =>
    have hb := (List.getElem?_eq_some_iff.1 h).1
    have hx : l[b] = x := (List.getElem?_eq_some_iff.1 h).2
    have hn := hok b x h
    rcases o with o | o | o
    · -- a literal
      have hval : ValOk x.f1 ∧ Opn.I64 x.f1.f1 := by
        cases hn with
        | lit v g g1 =>
          refine ⟨g, ?_⟩
          show Opn.I64 v.f1
          unfold Opn.I64
          rcases g with g | g | g
          · have := g1 g.1; omega
          · rcases g.2.1 with g | g <;> omega
          · omega
        | name op s o' g => exfalso; simp only [nodeN] at o; omega
        | one op o' g => exfalso; simp only [nodeO] at o; omega
        | two op c o' g0 g1 => exfalso; simp only [nodeO] at o; omega
      refine ⟨x.f1, 0, ⟨Ev.succ ?_, Ev.succ ?_, fun _ => hval, fun h => absurd rfl h⟩, fun kd at_ hk => ⟨fun _ => ?_, fun h => absurd rfl h⟩⟩
      · simp only [eval_machine_node.f]
        rw [rd156 hb, hx]
        exact Ev.pos (by omega) (Ev.pos (by omega) (Ev.pos o (Ev.some rfl)))
      · simp only [whirligigref05_Eval.f]
        rw [rd159 hb, hx]
        exact Ev.pos (by omega) (Ev.pos (by omega) (Ev.pos o (Ev.some rfl)))
      · have h2 : Ev (fun k => whirligigref04_Of.f k (l.map ref159) (b : Int) ((cs.map k118).map v151) st) (x.f1.f0, 0, 0) := Ev.succ (by
          simp only [whirligigref04_Of.f]
          rw [rd159 hb, hx]
          exact Ev.pos (by omega) (Ev.pos (by omega) (Ev.pos o (Ev.some rfl))))
        have := h2.uniq hk
        exact congrArg (·.1) this
    · -- a name
      have ho : ¬ x.f0 = 0 := by omega
      have hr := efind_l0 cs hcs x cs.length 0 (by omega) (by omega)
      rw [List.drop_zero] at hr
      have hf := efind_eq cs ss x.f2
      have hkd := rfind_l0 (b : Int) (cs.map k118) hks x (cs.map k118).length 0 (by omega) (by omega)
      rw [List.drop_zero, look_kind] at hkd
      cases hlk : lookC x.f2 cs with
      | none =>
        rw [hlk] at hr hf hkd
        refine ⟨zV, 24, ⟨Ev.succ ?_, Ev.succ ?_, fun h => absurd h (by decide), fun _ => rfl⟩, fun kd at_ hk => ?_⟩
        · simp only [eval_machine_node.f]
          rw [rd156 hb, hx]
          exact Ev.pos (by omega) (Ev.pos (by omega) (Ev.neg ho (Ev.pos o (Ev.bind_some hf (Ev.some rfl)))))
        · simp only [whirligigref05_Eval.f]
          rw [rd159 hb, hx]
          exact Ev.pos (by omega) (Ev.pos (by omega) (Ev.neg ho (Ev.pos o hr)))
        · have h2 : Ev (fun k => whirligigref04_Of.f k (l.map ref159) (b : Int) ((cs.map k118).map v151) st) (0, 24, (b : Int)) := Ev.succ (by
            simp only [whirligigref04_Of.f]
            rw [rd159 hb, hx]
            exact Ev.pos (by omega) (Ev.pos (by omega) (Ev.neg ho (Ev.pos o hkd))))
          exact absurd (congrArg (·.2.1) (h2.uniq hk)) (show ¬ (24 : Int) = 0 by decide)
      | some v =>
        rw [hlk] at hr hf hkd
        have hval := look_ok x.f2 (p := fun v => ValOk v ∧ Opn.I64 v.f1) cs hv v hlk
        refine ⟨v, 0, ⟨Ev.succ ?_, Ev.succ ?_, fun _ => hval, fun h => absurd rfl h⟩, fun kd at_ hk => ⟨fun _ => ?_, fun h => absurd rfl h⟩⟩
        · simp only [eval_machine_node.f]
          rw [rd156 hb, hx]
          exact Ev.pos (by omega) (Ev.pos (by omega) (Ev.neg ho (Ev.pos o (Ev.bind_some hf (Ev.some rfl)))))
        · simp only [whirligigref05_Eval.f]
          rw [rd159 hb, hx]
          exact Ev.pos (by omega) (Ev.pos (by omega) (Ev.neg ho (Ev.pos o hr)))
        · have h2 : Ev (fun k => whirligigref04_Of.f k (l.map ref159) (b : Int) ((cs.map k118).map v151) st) (v.f0, 0, 0) := Ev.succ (by
            simp only [whirligigref04_Of.f]
            rw [rd159 hb, hx]
            exact Ev.pos (by omega) (Ev.pos (by omega) (Ev.neg ho (Ev.pos o hkd))))
          exact congrArg (·.1) (h2.uniq hk)
    · -- a state
      have ho : ¬ x.f0 = 0 := by omega
      have ho' : ¬ x.f0 = 16 := by omega
      have hr := efind_l1 ss (by omega) x ss.length 0 (by omega) (by omega)
      rw [List.drop_zero] at hr
      have hf := contains_ev ss (by omega) x.f2
      have hc := comes_tr (hasS x.f2 ss)
      have hkd := rfind_l1 (b : Int) st (by omega) x st.length 0 (by omega) (by omega)
      rw [List.drop_zero] at hkd
      have key : ∃ v : S103, trR (hasS x.f2 ss) = (v.f0, v.f1, v.f2, 0) ∧ ValOk v ∧ Opn.I64 v.f1 ∧ v.f0 = 2 := by
        cases hasS x.f2 ss
        · exact ⟨⟨2, 0, ⟨#[]⟩⟩, rfl, Or.inr (Or.inl ⟨rfl, Or.inl rfl, rfl⟩), (⟨by decide, by decide⟩ : Opn.I64 0), rfl⟩
        · exact ⟨⟨2, 1, ⟨#[]⟩⟩, rfl, Or.inr (Or.inl ⟨rfl, Or.inr rfl, rfl⟩), (⟨by decide, by decide⟩ : Opn.I64 1), rfl⟩
      obtain ⟨v, k1, k2, k3, k4⟩ := key
      refine ⟨v, 0, ⟨Ev.succ ?_, Ev.succ ?_, fun _ => ⟨k2, k3⟩, fun h => absurd rfl h⟩, fun kd at_ hk => ⟨fun _ => ?_, fun h => absurd rfl h⟩⟩
      · simp only [eval_machine_node.f, vTruth]
        rw [rd156 hb, hx, ← k1]
        exact Ev.pos (by omega) (Ev.pos (by omega) (Ev.neg ho (Ev.neg ho' (Ev.pos o (Ev.bind hf (Ev.some rfl))))))
      · simp only [whirligigref05_Eval.f]
        rw [rd159 hb, hx, ← k1]
        exact Ev.pos (by omega) (Ev.pos (by omega) (Ev.neg ho (Ev.neg ho' (Ev.pos o hr))))
      · have h2 : Ev (fun k => whirligigref04_Of.f k (l.map ref159) (b : Int) ((cs.map k118).map v151) st) (if hasS x.f2 st = true then (2, 0, 0) else (0, 24, (b : Int))) := Ev.succ (by
          simp only [whirligigref04_Of.f]
          rw [rd159 hb, hx]
          exact Ev.pos (by omega) (Ev.pos (by omega) (Ev.neg ho (Ev.neg ho' (Ev.pos o hkd)))))
        have h3 := h2.uniq hk
        by_cases g : hasS x.f2 st = true
        · rw [if_pos g] at h3
          rw [k4]; exact congrArg (·.1) h3
        · rw [if_neg g] at h3
          exact absurd (congrArg (·.2.1) h3) (show ¬ (24 : Int) = 0 by decide)
  | @one a b x h o h3 s ih =>
    have hb := (List.getElem?_eq_some_iff.1 h).1
    have hx : l[b + 1] = x := (List.getElem?_eq_some_iff.1 h).2
    have ho : 1 ≤ x.f0 ∧ x.f0 ≤ 15 := by omega
    obtain ⟨v, err, hn, ht⟩ := ih
    obtain ⟨ka, ea, aa, hk1, hk2, _⟩ := kind_seg (vs := cs.map k118) (ss := st) hl hks hst hok s
    have hof := of_one h o h3 hk1
    by_cases he : err = 0
    · subst he
      obtain ⟨hv1, hv2⟩ := hn.ok rfl
      have hres := node_reck (l := l) (cs := cs) (ss := ss) (r := reckR x.f0 v zV) (op := x.f0) (ka := v.f0) (kb := 0) (b := b + 1) ?_ ?_ (fun hr => reck_comes1 o hr)
      · obtain ⟨w, e, h1, h2⟩ := hres
        refine ⟨w, e, h1, fun kd at_ hk => ?_⟩
        have h4 := hof.uniq hk
        by_cases g : ea = 0
        · rw [if_pos g] at h4
          subst g
          have h5 := (ht ka aa hk1).1 rfl
          rw [h5] at h2
          by_cases g2 : resK x.f0 ka 0 = 0
          · rw [if_pos g2] at h4
            exact absurd (congrArg (·.2.1) h4) (show ¬ (20 : Int) = 0 by decide)
          · rw [if_neg g2] at h4
            have h6 : resK x.f0 ka 0 = kd := congrArg (·.1) h4
            rw [← h6]
            exact h2 g2
        · rw [if_neg g] at h4
          exact absurd (congrArg (·.2.1) h4) g
      · refine Ev.succ ?_
        simp only [eval_machine_node.f, bind4]
        rw [rd156 hb, hx, h3]
        exact Ev.pos (by omega) (Ev.pos (by omega) (Ev.neg (by omega) (Ev.neg (by omega) (Ev.neg (by omega) (Ev.bind hn.prog (Ev.pos rfl (Ev.pos (by omega) (vReckon1 hv2 o zV))))))))
      · refine Ev.succ ?_
        simp only [whirligigref05_Eval.f]
        rw [rd159 hb, hx]
        refine Ev.pos (by omega) (Ev.pos (by omega) (Ev.neg (show ¬ x.f0 = 0 by omega) (Ev.neg (show ¬ x.f0 = 16 by omega) (Ev.neg (show ¬ x.f0 = 17 by omega) (Ev.bind (a := (v.f0, v.f1, v.f2, 0)) ?_ (Ev.pos rfl (Ev.neg (show ¬ x.f0 > 2 by omega) (Ev.succ ?_))))))))
        · rw [show (ref159 x).f3 = (b : Int) from h3]; exact hn.doc
        · simp only [whirligigref05_Eval.j3, bind4]
          refine Ev.bind (rResult_ev ho v.f0 0) ?_
          by_cases g : resK x.f0 v.f0 0 = 0
          · rw [if_pos g]; exact Ev.pos g (Ev.some rfl)
          · rw [if_neg g]; exact Ev.neg g (rReckon1 hv2 o zV)
    · have hz := hn.no he
      subst hz
      refine ⟨zV, err, ⟨Ev.succ ?_, Ev.succ ?_, fun h => absurd h he, fun _ => rfl⟩, fun kd at_ hk => ⟨fun h => absurd h he, fun _ => ?_⟩⟩
      · simp only [eval_machine_node.f, bind4]
        rw [rd156 hb, hx, h3]
        exact Ev.pos (by omega) (Ev.pos (by omega) (Ev.neg (by omega) (Ev.neg (by omega) (Ev.neg (by omega) (Ev.bind hn.prog (Ev.neg he (Ev.some rfl)))))))
      · simp only [whirligigref05_Eval.f]
        rw [rd159 hb, hx]
        refine Ev.pos (by omega) (Ev.pos (by omega) (Ev.neg (show ¬ x.f0 = 0 by omega) (Ev.neg (show ¬ x.f0 = 16 by omega) (Ev.neg (show ¬ x.f0 = 17 by omega) (Ev.bind (a := (0, 0, ⟨#[]⟩, err)) ?_ (Ev.neg he (Ev.some rfl)))))))
        rw [show (ref159 x).f3 = (b : Int) from h3]; exact hn.doc
      · have h4 := hof.uniq hk
        by_cases g : ea = 0
        · subst g
          exact (ht ka aa hk1).2 he
        · rw [if_neg g] at h4
          exact absurd (congrArg (·.2.1) h4) g
  | @two a b c x h o h3 h4 s t i1 i2 =>
    have hb := (List.getElem?_eq_some_iff.1 h).1
    have hx : l[b + 1] = x := (List.getElem?_eq_some_iff.1 h).2
    have hle := s.le
    have hlt := t.le
    have ho : 1 ≤ x.f0 ∧ x.f0 ≤ 15 := by omega
    obtain ⟨v, err, hn, ht⟩ := i1
    obtain ⟨w, er2, hn2, ht2⟩ := i2
    obtain ⟨ka, ea, aa, hk1, _, _⟩ := kind_seg (vs := cs.map k118) (ss := st) hl hks hst hok s
    obtain ⟨kb, eb, ab, hj1, _, _⟩ := kind_seg (vs := cs.map k118) (ss := st) hl hks hst hok t
    have hof := of_two h o h3 h4 hk1 hj1
    -- a kind of the whole: kinds of the parts
    have hkinds : ∀ kd at_, Ev (fun k => whirligigref04_Of.f k (l.map ref159) ((b + 1 : Nat) : Int) ((cs.map k118).map v151) st) (kd, 0, at_) → ea = 0 ∧ eb = 0 ∧ resK x.f0 ka kb ≠ 0 ∧ kd = resK x.f0 ka kb := fun kd at_ hk => by
      have h5 := hof.uniq hk
      by_cases g : ea = 0
      · rw [if_pos g] at h5
        by_cases g2 : eb = 0
        · rw [if_pos g2] at h5
          by_cases g3 : resK x.f0 ka kb = 0
          · rw [if_pos g3] at h5
            exact absurd (congrArg (·.2.1) h5) (show ¬ (20 : Int) = 0 by decide)
          · rw [if_neg g3] at h5
            exact ⟨g, g2, g3, (congrArg (·.1) h5).symm⟩
        · rw [if_neg g2] at h5
          exact absurd (congrArg (·.2.1) h5) g2
      · rw [if_neg g] at h5
        exact absurd (congrArg (·.2.1) h5) g
    by_cases he : err = 0
    rotate_left
    · have hz := hn.no he
      subst hz
      refine ⟨zV, err, ⟨Ev.succ ?_, Ev.succ ?_, fun h => absurd h he, fun _ => rfl⟩, fun kd at_ hk => ⟨fun h => absurd h he, fun _ => ?_⟩⟩
      · simp only [eval_machine_node.f, bind4]
        rw [rd156 hb, hx, h3]
        exact Ev.pos (by omega) (Ev.pos (by omega) (Ev.neg (by omega) (Ev.neg (by omega) (Ev.neg (by omega) (Ev.bind hn.prog (Ev.neg he (Ev.some rfl)))))))
      · simp only [whirligigref05_Eval.f]
        rw [rd159 hb, hx]
        refine Ev.pos (by omega) (Ev.pos (by omega) (Ev.neg (show ¬ x.f0 = 0 by omega) (Ev.neg (show ¬ x.f0 = 16 by omega) (Ev.neg (show ¬ x.f0 = 17 by omega) (Ev.bind (a := (0, 0, ⟨#[]⟩, err)) ?_ (Ev.neg he (Ev.some rfl)))))))
        rw [show (ref159 x).f3 = (c : Int) from h3]; exact hn.doc
      · obtain ⟨g, _, _, _⟩ := hkinds kd at_ hk
        subst g
        exact (ht ka aa hk1).2 he
    subst he
    obtain ⟨hv1, hv2⟩ := hn.ok rfl
    have hfin : ∀ {R : R4}, Ev (fun k => whirligigref05_Eval.j2 k (l.map ref159) (cs.map c166) ss (enR x.f0 v) x.f0 x.f1.f0 x.f1.f1 x.f1.f2 x.f2 x.f3 x.f4 v.f0 v.f1 v.f2) R → Ev (fun k => whirligigref05_Eval.f k (l.map ref159) ((b + 1 : Nat) : Int) (cs.map c166) ss) R := fun {R} hR => by
      refine Ev.succ ?_
      simp only [whirligigref05_Eval.f]
      rw [rd159 hb, hx]
      refine Ev.pos (by omega) (Ev.pos (by omega) (Ev.neg (show ¬ x.f0 = 0 by omega) (Ev.neg (show ¬ x.f0 = 16 by omega) (Ev.neg (show ¬ x.f0 = 17 by omega) (Ev.bind (a := (v.f0, v.f1, v.f2, 0)) ?_ (Ev.pos rfl (Ev.pos (show x.f0 > 2 by omega) ?_)))))))
      · rw [show (ref159 x).f3 = (c : Int) from h3]; exact hn.doc
      · have hbit : v.f0 = 2 → v.f2.toList = ([] : List UInt8) ∧ (v.f1 = 0 ∨ v.f1 = 1) := fun h2 => by
          rcases hv1 with g | g | g
          · omega
          · exact ⟨by rw [g.2.2, nil_toList], g.2.1⟩
          · omega
        have e0 : (v.f0 == 2 && (v.f1 == 0 && (v.f2.toList == ([] : List UInt8)))) = (decide (v.f0 = 2) && v.f1 == 0) := by
          by_cases h2 : v.f0 = 2
          · rw [(hbit h2).1]; simp [h2]
          · simp [h2]
        have e1 : (v.f0 == 2 && (v.f1 == 1 && (v.f2.toList == ([] : List UInt8)))) = (decide (v.f0 = 2) && v.f1 != 0) := by
          by_cases h2 : v.f0 = 2
          · rw [(hbit h2).1]
            rcases (hbit h2).2 with g | g <;> simp [h2, g]
          · simp [h2]
        rw [show (ref159 x).f0 = x.f0 from rfl]
        by_cases h14 : x.f0 = 14
        · refine Ev.pos h14 ?_
          have hen : enR x.f0 v = (decide (v.f0 = 2) && v.f1 == 0) := by rw [h14]; unfold enR; simp
          cases g : (decide (v.f0 = 2) && v.f1 == 0) with
          | true =>
            rw [hen, g] at hR
            exact Ev.pos (by rw [e0, g]) hR
          | false =>
            rw [hen, g] at hR
            exact Ev.neg (by rw [e0, g]; decide) (Ev.neg (by omega) hR)
        · refine Ev.neg h14 ?_
          by_cases h15 : x.f0 = 15
          · refine Ev.pos h15 ?_
            have hen : enR x.f0 v = (decide (v.f0 = 2) && v.f1 != 0) := by rw [h15]; unfold enR; simp
            rw [hen] at hR
            dsimp only
            rw [e1]
            exact hR
          · refine Ev.neg h15 ?_
            have hen : enR x.f0 v = false := by unfold enR; simp [h14, h15]
            rw [hen] at hR
            exact hR
    have hpro : ∀ {R : R4}, (enR x.f0 v = true → R = (v.f0, v.f1, v.f2, 0)) → (enR x.f0 v = false → er2 ≠ 0 → R = (0, 0, ⟨#[]⟩, er2)) → (enR x.f0 v = false → er2 = 0 → Ev (fun k => val_Reckon.f k x.f0 v.f0 v.f1 v.f2 [w]) R) → Ev (fun k => eval_machine_node.f k cs ss l ((b + 1 : Nat) : Int)) R := fun {R} h1 h2 h5 => by
      refine Ev.succ ?_
      simp only [eval_machine_node.f, bind4]
      rw [rd156 hb, hx, h3, h4]
      refine Ev.pos (by omega) (Ev.pos (by omega) (Ev.neg (by omega) (Ev.neg (by omega) (Ev.neg (by omega) (Ev.bind hn.prog (Ev.pos rfl (Ev.neg (by omega) (Ev.bind_some (enough_eq x.f0 v) ?_))))))))
      cases g : enR x.f0 v with
      | true => exact Ev.pos rfl (Ev.some (h1 g).symm)
      | false =>
        refine Ev.neg (by decide) (Ev.bind hn2.prog ?_)
        by_cases g2 : er2 = 0
        · exact Ev.pos g2 (h5 g g2)
        · exact Ev.neg g2 (Ev.some (h2 g g2).symm)
    cases g : enR x.f0 v with
    | true =>
      refine ⟨v, 0, ⟨hpro (fun _ => rfl) (fun h => by rw [g] at h; cases h) (fun h => by rw [g] at h; cases h), hfin (Ev.succ ?_), fun _ => ⟨hv1, hv2⟩, fun h => absurd rfl h⟩, fun kd at_ hk => ⟨fun _ => ?_, fun h => absurd rfl h⟩⟩
      · rw [g]
        simp only [whirligigref05_Eval.j2]
        exact Ev.pos trivial (Ev.some rfl)
      · obtain ⟨g1, g2, g3, g4⟩ := hkinds kd at_ hk
        subst g1
        have h5 := (ht ka aa hk1).1 rfl
        have h6 : v.f0 = 2 ∧ 14 ≤ x.f0 := by
          unfold enR at g
          simp only [Bool.and_eq_true, Bool.or_eq_true, decide_eq_true_eq, beq_iff_eq] at g
          exact ⟨g.1, by rcases g.2 with h | h <;> omega⟩
        rw [g4, resK_val ho g3, if_neg (by omega), if_neg (by omega), if_neg (by omega), if_neg (by omega)]
        exact h6.1
    | false =>
      by_cases g2 : er2 = 0
      rotate_left
      · refine ⟨zV, er2, ⟨hpro (fun h => by rw [g] at h; cases h) (fun _ _ => rfl) (fun _ h => absurd h g2), hfin (Ev.succ ?_), fun h => absurd h g2, fun _ => rfl⟩, fun kd at_ hk => ⟨fun h => absurd h g2, fun _ => ?_⟩⟩
        · rw [g]
          simp only [whirligigref05_Eval.j2]
          refine Ev.neg (by decide) (Ev.bind (a := (w.f0, w.f1, w.f2, er2)) (by rw [h4]; exact hn2.doc) (Ev.neg g2 (Ev.some rfl)))
        · obtain ⟨_, g1, _, _⟩ := hkinds kd at_ hk
          subst g1
          exact (ht2 kb ab hj1).2 g2
      subst g2
      obtain ⟨hw1, hw2⟩ := hn2.ok rfl
      have hres := node_reck (l := l) (cs := cs) (ss := ss) (r := reckR x.f0 v w) (op := x.f0) (ka := v.f0) (kb := w.f0) (b := b + 1) ?_ ?_ (fun hr => reck_comes ho hv1 hw1 hv2 hw2 hr)
      · obtain ⟨u, e, h1, h2⟩ := hres
        refine ⟨u, e, h1, fun kd at_ hk => ?_⟩
        obtain ⟨g1, g2, g3, g4⟩ := hkinds kd at_ hk
        subst g1 g2
        have h5 := (ht ka aa hk1).1 rfl
        have h6 := (ht2 kb ab hj1).1 rfl
        rw [h5, h6] at h2
        rw [g4]
        exact h2 g3
      · exact hpro (fun h => by rw [g] at h; cases h) (fun _ h => absurd rfl h) (fun _ _ => vReckon2 hv1 hw1 hv2 hw2 o)
      · refine hfin (Ev.succ ?_)
        rw [g]
        simp only [whirligigref05_Eval.j2]
        refine Ev.neg (by decide) (Ev.bind (a := (w.f0, w.f1, w.f2, 0)) (by rw [h4]; exact hn2.doc) (Ev.pos rfl (Ev.succ ?_)))
        simp only [whirligigref05_Eval.j3, bind4]
        refine Ev.bind (rResult_ev ho v.f0 w.f0) ?_
        by_cases g5 : resK x.f0 v.f0 w.f0 = 0
        · rw [if_pos g5]; exact Ev.pos g5 (Ev.some rfl)
        · rw [if_neg g5]; exact Ev.neg g5 (rReckon hv1 hw1 hv2 hw2 o g5)
end
theorem Eval_node {l : List S156} {cs : List S116} {ss : List ByteArray} (g : GoodE l) {r : R4} (h : Ev (fun k => eval_machine_node.f k cs ss l ((l.length - 1 : Nat) : Int)) r) : Ev (fun k => eval_Eval.f k l cs ss) r := by
  have h0 := g.ne
  have h1 := g.le
  unfold eval_Eval.f
  simp only [bind4]
  rw [wrap_at (x := (l.length : Int) - 1) (by omega) (by omega), show (l.length : Int) - 1 = ((l.length - 1 : Nat) : Int) by omega]
  exact Ev.bind (right_good g) (Ev.pos rfl h)
theorem Eval_ev {l : List S156} {cs : List S116} {ss st : List ByteArray} (g : GoodE l) (hcs : cs.length ≤ 1000) (hss : ss.length ≤ 1000) (hst : st.length ≤ 1000) (hv : ∀ x ∈ cs, ValOk x.f1 ∧ Opn.I64 x.f1.f1) :
    ∃ v err, Ev (fun k => eval_Eval.f k l cs ss) (v.f0, v.f1, v.f2, err) ∧ NodeEv l cs ss (l.length - 1) v err ∧ ∀ kd at_, Ev (fun k => whirligigref04_Of.f k (l.map ref159) ((l.length : Int) - 1) ((cs.map k118).map v151) st) (kd, 0, at_) → (err = 0 → v.f0 = kd) ∧ (err ≠ 0 → isErr err) := by
  have h0 := g.ne
  have h1 := g.le
  obtain ⟨v, err, hn, ht⟩ := eval_seg (st := st) (by omega) hcs hss hst g.ok hv g.seg
  refine ⟨v, err, Eval_node g hn.prog, hn, fun kd at_ hk => ht kd at_ ?_⟩
  rw [show (l.length : Int) - 1 = ((l.length - 1 : Nat) : Int) by omega] at hk
  exact hk
theorem cells_both {cs : List S116} (ho : Opn.okCs cs) (h : ∀ x ∈ cs, ValOk x.f1) : ∀ x ∈ cs, ValOk x.f1 ∧ Opn.I64 x.f1.f1 := fun x hx => ⟨h x hx, (ho.2 x hx).2.2.1⟩
end Go.Proofs.YtbngfhlciebeeaaDoor.Sp
end
section
namespace Go.Proofs.YtbngfhlciebeeaaDoor.Sp
set_option linter.unusedVariables false
set_option linter.unusedSimpArgs false
open Go.RowKit Go.Proofs.YtbngfhlciebeeaaDoor.L Go.Proofs.YtbngfhlciebeeaaDoorW.PrintWords
def Tk.raw (t : Tk) : List UInt8 := if t.kind = 4 then [39] ++ t.text ++ [39] else t.text
def Stop (r : List UInt8) : Prop := r = [] ∨ ∃ X, r = 32 :: X
theorem Stop.no {p : UInt8 → Bool} {r : List UInt8} (h : Stop r) (hp : p 32 = false) : ∀ c X', r = c :: X' → p c = false := by
  rintro c X' rfl
  rcases h with h | ⟨X, h⟩
  · cases h
  · cases h; exact hp
theorem takeWhile_stop {p : UInt8 → Bool} : ∀ (w X : List UInt8), w.all p = true → (∀ c X', X = c :: X' → p c = false) → (w ++ X).takeWhile p = w
  | [], X, _, h => by
    cases X with
    | nil => rfl
    | cons c X => rw [List.nil_append, List.takeWhile_cons_of_neg (by rw [h c X rfl]; decide)]
  | c :: w, X, hw, h => by
    simp only [List.all_cons, Bool.and_eq_true] at hw
    rw [List.cons_append, List.takeWhile_cons_of_pos hw.1, takeWhile_stop w X hw.2 h]
theorem pend_stopped {p : UInt8 → Bool} {J w X : List UInt8} {i : Nat} (hd : J.drop i = w ++ X) (hw : w.all p = true) (h : ∀ c X', X = c :: X' → p c = false) : pend p J i = i + w.length := by
  unfold pend; rw [hd, takeWhile_stop w X hw h]
theorem drop_more {J w X : List UInt8} {i : Nat} (hd : J.drop i = w ++ X) : J.drop (i + w.length) = X := by
  rw [← List.drop_drop, hd, List.drop_left]
theorem getD_of_drop {J X : List UInt8} {c : UInt8} {i : Nat} (hd : J.drop i = c :: X) : J.getD i 0 = c := by
  have h := congrArg (fun l => l.getD 0 0) hd
  simpa [List.getD_eq_getElem?_getD, List.getElem?_drop] using h
theorem cut_of_drop {J w X : List UInt8} {i : Nat} (hd : J.drop i = w ++ X) : cut J i (i + w.length) = w := by
  unfold cut
  rw [List.drop_take, hd, Nat.add_sub_cancel_left, List.take_left]
end Go.Proofs.YtbngfhlciebeeaaDoor.Sp
end
section
namespace Go.Proofs.YtbngfhlciebeeaaDoor.Sp
set_option linter.unusedVariables false
set_option linter.unusedSimpArgs false
open Go.RowKit Go.Proofs.YtbngfhlciebeeaaDoorW.PrintWords Go.Proofs.YtbngfhlciebeeaaDoorW.PrintMore Go.Proofs.YtbngfhlciebeeaaDoor.L
theorem takeWhile_brk {q : UInt8 → Bool} (hq : q 41 = false) (R : List UInt8) : ∀ A : List UInt8, (A ++ 41 :: R).takeWhile q = A.takeWhile q
  | [] => by rw [List.nil_append, List.takeWhile_cons_of_neg (by rw [hq]; decide)]; rfl
  | c :: A => by
    rw [List.cons_append, List.takeWhile_cons, List.takeWhile_cons, takeWhile_brk hq R A]
theorem takeWhile_in {q : UInt8 → Bool} (X : List UInt8) : ∀ A : List UInt8, (A.takeWhile q).length < A.length → (A ++ X).takeWhile q = A.takeWhile q
  | [], h => by simp at h
  | c :: A, h => by
    rw [List.cons_append, List.takeWhile_cons, List.takeWhile_cons]
    rw [List.takeWhile_cons] at h
    by_cases hc : q c = true
    · rw [if_pos hc] at h ⊢
      rw [if_pos hc, takeWhile_in X A (by simpa using h)]
    · rw [if_neg hc, if_neg hc]
section
variable {L J R : List UInt8}
theorem pend_brk {q : UInt8 → Bool} (hq : q 41 = false) {i p : Nat} (hd : J.drop p = L.drop i ++ 41 :: R) : pend q J p = p + (pend q L i - i) := by
  unfold pend
  rw [hd, takeWhile_brk hq R]; omega
theorem drop_brk {i p m : Nat} (hd : J.drop p = L.drop i ++ 41 :: R) (hm : i + m ≤ L.length) : J.drop (p + m) = L.drop (i + m) ++ 41 :: R := by
  rw [← List.drop_drop, hd, List.drop_append_of_le_length (by rw [List.length_drop]; omega), List.drop_drop]
theorem getD_brk {i p : Nat} (hd : J.drop p = L.drop i ++ 41 :: R) (hi : i < L.length) : J.getD p 0 = L.getD i 0 := by
  rw [drop_at hi] at hd
  exact getD_of_drop hd
theorem len_brk {i p : Nat} (hd : J.drop p = L.drop i ++ 41 :: R) (hi : i ≤ L.length) : p + (L.length - i) < J.length := by
  have := congrArg List.length hd
  simp only [List.length_drop, List.length_append, List.length_cons] at this
  omega
theorem cut_brk {i p m : Nat} (hd : J.drop p = L.drop i ++ 41 :: R) (hm : i + m ≤ L.length) : cut J p (p + m) = cut L i (i + m) := by
  unfold cut
  rw [List.drop_take, List.drop_take, hd, Nat.add_sub_cancel_left, Nat.add_sub_cancel_left, List.take_append_of_le_length (by rw [List.length_drop]; omega)]
theorem path_brk : ∀ (f e : Nat) (k k' : Int) (e' : Nat), e ≤ L.length → pathGo L f e k = some (k', e') → ∀ (p : Nat), J.drop p = L.drop e ++ 41 :: R → ∀ g, J.length - p < g → pathGo J g p k = some (k', p + (e' - e))
  | 0, _, _, _, _, _, h => by simp [pathGo] at h
  | f + 1, e, k, k', e', he, h => by
    intro p hd g hg
    obtain ⟨g, rfl⟩ : ∃ m, g = m + 1 := ⟨g - 1, by omega⟩
    have hle := pathGo_le L _ _ _ _ _ he h
    have hl := len_brk hd he
    unfold pathGo at h
    split at h
    · rename_i hc
      obtain ⟨hc1, hc2, hc3⟩ := hc
      split at h
      · cases h
      · rename_i hw
        have h1 := le_pend innerB L (e + 1)
        have h2 := pend_le (p := innerB) (L := L) (i := e + 1) (by omega)
        have h3 := pathGo_le L _ _ _ _ _ h2 h
        have hd1 : J.drop (p + 1) = L.drop (e + 1) ++ 41 :: R := drop_brk hd (by omega)
        have hp := pend_brk (q := innerB) (by decide) hd1
        have hd2 := drop_brk (m := pend innerB L (e + 1) - (e + 1)) hd1 (by omega)
        rw [show e + 1 + (pend innerB L (e + 1) - (e + 1)) = pend innerB L (e + 1) by omega] at hd2
        unfold pathGo
        rw [if_pos ⟨by omega, by rw [getD_brk hd (by omega)]; exact hc2, by rw [getD_brk hd1 hc1]; exact hc3⟩, hp, if_neg (by omega)]
        rw [path_brk f _ 2 k' e' h2 h _ hd2 g (by omega)]
        congr 2
        omega
    · rename_i hc
      simp only [Option.some.injEq, Prod.mk.injEq] at h
      obtain ⟨rfl, rfl⟩ := h
      unfold pathGo
      rw [if_neg, Nat.sub_self, Nat.add_zero]
      rintro ⟨h1, h2, h3⟩
      by_cases h0 : e < L.length
      · have hd1 : J.drop (p + 1) = L.drop (e + 1) ++ 41 :: R := drop_brk hd (by omega)
        by_cases h4 : e + 1 < L.length
        · exact hc ⟨h4, by rw [← getD_brk hd h0]; exact h2, by rw [← getD_brk hd1 h4]; exact h3⟩
        · rw [show L.drop (e + 1) = [] from List.drop_eq_nil_of_le (by omega), List.nil_append] at hd1
          rw [getD_of_drop hd1] at h3
          exact absurd h3 (by decide)
      · rw [show L.drop e = [] from List.drop_eq_nil_of_le (by omega), List.nil_append] at hd
        rw [getD_of_drop hd] at h2
        exact absurd h2 (by decide)
theorem sign_brk : ∀ A : List UInt8, A ≠ [] → signFind (A ++ 41 :: R) = signFind A
  | [], h => absurd rfl h
  | [c], _ => by simp [signFind, signList, List.find?, List.isPrefixOf]
  | c :: d :: A, _ => rfl
theorem tok_brk {i : Nat} (hi : i < L.length) {k : Int} {t : List UInt8} {n : Int} {e : Nat} (h : tokenAt L i = .ok (k, t, n, e)) {p : Nat} (hd : J.drop p = L.drop i ++ 41 :: R) :
    tokenAt J p = .ok (k, t, n, p + (e - i)) := by
  have hle := tokenAt_le hi h
  have hJ0 := getD_brk hd hi
  have hl := len_brk hd (by omega)
  unfold tokenAt at h ⊢
  rw [hJ0]
  split at h
  · rename_i hs
    rw [if_pos hs]
    have h1 := le_pend innerB L i
    have h2 := pend_le (p := innerB) (L := L) (i := i) (by omega)
    rw [pend_brk (q := innerB) (by decide) hd]
    split at h
    · cases h
    · rename_i h16
      rw [if_neg (by omega)]
      split at h
      · cases h
      · rename_i k' e' hp
        have h3 := pathGo_le L _ _ _ _ _ h2 hp
        have hd2 := drop_brk (m := pend innerB L i - i) hd (by omega)
        rw [show i + (pend innerB L i - i) = pend innerB L i by omega] at hd2
        rw [path_brk _ _ _ _ _ h2 hp _ hd2 (J.length + 1) (by omega)]
        dsimp only
        split at h
        · cases h
        · rename_i h32
          simp only [Except.ok.injEq, Prod.mk.injEq] at h
          obtain ⟨rfl, rfl, rfl, rfl⟩ := h
          have hc := cut_brk (m := e' - i) hd (by omega)
          rw [show i + (e' - i) = e' by omega] at hc
          rw [show p + (pend innerB L i - i) + (e' - pend innerB L i) = p + (e' - i) by omega, if_neg (by omega), hc]
  · rename_i hs
    rw [if_neg hs]
    split at h
    · rename_i hdg
      rw [if_pos hdg]
      have h1 := le_pend isDigit L i
      have h2 := pend_le (p := isDigit) (L := L) (i := i) (by omega)
      have hc := cut_brk (m := pend isDigit L i - i) hd (by omega)
      rw [show i + (pend isDigit L i - i) = pend isDigit L i by omega] at hc
      rw [pend_brk (q := isDigit) (by decide) hd, hc, show p + (pend isDigit L i - i) - p = pend isDigit L i - i by omega]
      split at h
      · cases h
      · rename_i hz
        rw [if_neg hz]
        split at h
        · cases h
        · rename_i r hn
          simp only [Except.ok.injEq, Prod.mk.injEq] at h
          obtain ⟨rfl, rfl, rfl, rfl⟩ := h
          rfl
    · rename_i hdg
      rw [if_neg hdg]
      split at h
      · rename_i hq
        rw [if_pos hq]
        have h1 := le_pend noQuoteB L (i + 1)
        have h2 := pend_le (p := noQuoteB) (L := L) (i := i + 1) (by omega)
        split at h
        · cases h
        · rename_i hnl
          have hd1 : J.drop (p + 1) = L.drop (i + 1) ++ 41 :: R := drop_brk hd (by omega)
          have hp : pend noQuoteB J (p + 1) = p + 1 + (pend noQuoteB L (i + 1) - (i + 1)) := by
            have hin : ((L.drop (i + 1)).takeWhile noQuoteB).length < (L.drop (i + 1)).length := by
              unfold pend at hnl; rw [List.length_drop]; omega
            unfold pend
            rw [hd1, takeWhile_in _ _ hin]; omega
          have hc := cut_brk (m := pend noQuoteB L (i + 1) - (i + 1)) hd1 (by omega)
          rw [show i + 1 + (pend noQuoteB L (i + 1) - (i + 1)) = pend noQuoteB L (i + 1) by omega] at hc
          rw [hp, if_neg (by omega), hc]
          split at h
          · cases h
          · rename_i h48
            rw [if_neg (by omega)]
            split at h
            · rename_i hpl
              rw [if_pos hpl]
              simp only [Except.ok.injEq, Prod.mk.injEq] at h
              obtain ⟨rfl, rfl, rfl, rfl⟩ := h
              congr 4
              omega
            · cases h
      · rename_i hq
        rw [if_neg hq, hd, sign_brk _ (fun h0 => by have := congrArg List.length h0; rw [List.length_drop] at this; simp at this; omega)]
        split at h
        · rename_i g hg
          simp only [Except.ok.injEq, Prod.mk.injEq] at h
          obtain ⟨rfl, rfl, rfl, rfl⟩ := h
          congr 4
          omega
        · cases h
end
def Alike (t u : S32) : Prop := t.f0 = u.f0 ∧ t.f1 = u.f1 ∧ t.f2 = u.f2
def signT (t : S32) (s : ByteArray) : Prop := t.f0 = 5 ∧ t.f1 = s
structure Moved (l l' : List S32) (d : Nat) : Prop where
  same : ∀ i, i < l.length → Alike (nextT l' (i + d)) (nextT l i)
  stop : signT (nextT l' (l.length + d)) ⟨#[41]⟩
theorem isT_alike {t u : S32} (h : Alike t u) (ss : List ByteArray) : isT t ss = isT u ss := by unfold isT; rw [h.1, h.2.1]
theorem lname_alike {t u : S32} (h : Alike t u) : L.nameT t = L.nameT u := by unfold L.nameT; rw [h.1, h.2.1]
theorem opIn_alike {t u : S32} (h : Alike t u) : ∀ (ss : List ByteArray) (os : List Int), opIn ss os t = opIn ss os u
  | [], os => by cases os <;> rfl
  | s :: ss, [] => rfl
  | s :: ss, o :: os => by simp only [opIn]; rw [isT_alike h, opIn_alike h ss os]
theorem isT_sign {t : S32} {s : ByteArray} (h : signT t s) (ss : List ByteArray) : isT t ss = Sp.anyIs s ss := by unfold isT; rw [h.1, h.2]; rfl
theorem opIn_sign {t : S32} {s : ByteArray} (h : signT t s) : ∀ (ss : List ByteArray) (os : List Int), (∀ x ∈ ss, Sp.anyIs s [x] = false) → opIn ss os t = none
  | [], os, _ => by cases os <;> rfl
  | x :: ss, [], _ => rfl
  | x :: ss, o :: os, hx => by
    simp only [opIn]
    rw [isT_sign h, hx x List.mem_cons_self, if_neg (by decide)]
    exact opIn_sign h ss os (fun y hy => hx y (List.mem_cons_of_mem _ hy))
theorem lev_none {j : Nat} (h : ¬ j < 5) : levAt j = ⟨[], [], false⟩ := by
  unfold levAt
  rw [List.getD_eq_getElem?_getD, List.getElem?_eq_none (by show 5 ≤ j; omega)]; rfl
theorem opIn_close {t : S32} (h : signT t ⟨#[41]⟩) (j : Nat) : opIn (levAt j).signs (levAt j).ops t = none := by
  by_cases hj : j < 5
  · refine opIn_sign h _ _ ?_
    have : j = 0 ∨ j = 1 ∨ j = 2 ∨ j = 3 ∨ j = 4 := by omega
    rcases this with rfl | rfl | rfl | rfl | rfl <;> (intro x hx; revert x; decide +kernel)
  · rw [lev_none hj]; rfl
theorem opIn_end (j : Nat) : opIn (levAt j).signs (levAt j).ops z32 = none := by
  by_cases hj : j < 5
  · have : j = 0 ∨ j = 1 ∨ j = 2 ∨ j = 3 ∨ j = 4 := by omega
    rcases this with rfl | rfl | rfl | rfl | rfl <;> rfl
  · rw [lev_none hj]; rfl
theorem pa_moved {l l' : List S32} {d : Nat} (hl : ∀ i, i < l.length → TokOk (nextT l i)) (hm : Moved l l' d) : ∀ (k m i : Nat) (e : List S156) (i2 : Nat) (e2 : List S156), pa k l m i e = some (some (i2, e2)) → i ≤ l.length → (7 ≤ m → 0 < e.length) →
    ∀ e' : List S156, ∃ e2', pa k l' m (i + d) e' = some (some (i2 + d, e2')) ∧ (e' = e → e2' = e2) := by
  intro k
  induction k with
  | zero => intro m i e i2 e2 h; simp [pa] at h
  | succ k ih =>
    intro m i e i2 e2 h hi hne e'
    have hlt : m ≤ 6 → i < l.length := fun h6 => by
      have h1 := pa_inv _ l m i e i2 e2 h hi
      have h2 := ((pa_seg l hl _ m i e i2 e2 h hne).2.1 h6).1
      omega
    have sh : ∀ n, i + n + d = i + d + n := fun n => by omega
    simp only [pa] at h ⊢
    by_cases h6 : m = 6
    · rw [if_pos h6] at h ⊢
      have hi' := hlt (by omega)
      have al := hm.same i hi'
      rw [al.1, al.2.1, al.2.2, isT_alike al, isT_alike al, isT_alike al, lname_alike al]
      have fin : ∀ {n : Nat} {x : S156}, some (some (i + n, e ++ [x])) = some (some (i2, e2)) → ∃ e2', (some (some (i + d + n, e' ++ [x])) : Option (Option (Nat × List S156))) = some (some (i2 + d, e2')) ∧ (e' = e → e2' = e2) := by
        intro n x h
        simp only [Option.some.injEq, Prod.mk.injEq] at h
        obtain ⟨rfl, rfl⟩ := h
        exact ⟨e' ++ [x], by rw [sh], fun he => by rw [he]⟩
      by_cases a1 : (nextT l i).f0 = 3
      · rw [if_pos a1] at h ⊢; exact fin h
      rw [if_neg a1] at h ⊢
      by_cases a2 : (nextT l i).f0 = 4
      · rw [if_pos a2] at h ⊢; exact fin h
      rw [if_neg a2] at h ⊢
      by_cases a3 : isT (nextT l i) [⟨#[116, 114, 117, 101]⟩, ⟨#[102, 97, 108, 115, 101]⟩] = true
      · rw [if_pos a3] at h ⊢; exact fin h
      rw [if_neg a3] at h ⊢
      by_cases a4 : isT (nextT l i) [⟨#[105, 110]⟩] = true
      · rw [if_pos a4] at h ⊢
        by_cases b1 : isT (nextT l (i + 1)) [⟨#[40]⟩] = true
        · rw [if_pos b1] at h
          by_cases b2 : L.nameT (nextT l (i + 1 + 1)) = true
          · rw [if_pos b2] at h
            by_cases b3 : isT (nextT l (i + 1 + 1 + 1)) [⟨#[41]⟩] = true
            · rw [if_pos b3] at h
              have c1 := hm.same _ (isT_lt b1)
              have c2 := hm.same _ (nameT_lt b2)
              have c3 := hm.same _ (isT_lt b3)
              rw [show i + 1 + d = i + d + 1 by omega] at c1
              rw [show i + 1 + 1 + d = i + d + 1 + 1 by omega] at c2
              rw [show i + 1 + 1 + 1 + d = i + d + 1 + 1 + 1 by omega] at c3
              rw [isT_alike c1, if_pos b1, lname_alike c2, if_pos b2, isT_alike c3, if_pos b3, c2.2.1]
              exact fin (n := 1 + 1 + 1 + 1) h
            · rw [if_neg b3] at h; simp at h
          · rw [if_neg b2] at h; simp at h
        · rw [if_neg b1] at h; simp at h
      rw [if_neg a4] at h ⊢
      by_cases a5 : isT (nextT l i) [⟨#[40]⟩] = true
      · rw [if_pos a5] at h ⊢
        obtain ⟨r, hr, h⟩ := Option.bind_eq_some_iff.1 h
        cases r with
        | none => simp at h
        | some p =>
          obtain ⟨i3, e3⟩ := p
          simp only at h
          by_cases b1 : isT (nextT l i3) [⟨#[41]⟩] = true
          · rw [if_pos b1] at h
            obtain ⟨e3', h3, h4⟩ := ih 0 (i + 1) e i3 e3 hr (by omega) (by omega) e'
            have c1 := hm.same _ (isT_lt b1)
            rw [show i + 1 + d = i + d + 1 by omega] at h3
            rw [h3]
            simp only [Option.bind_some]
            rw [isT_alike c1, if_pos b1]
            simp only [Option.some.injEq, Prod.mk.injEq] at h
            obtain ⟨rfl, rfl⟩ := h
            exact ⟨e3', by rw [show i3 + 1 + d = i3 + d + 1 by omega], h4⟩
          · rw [if_neg b1] at h; simp at h
      rw [if_neg a5] at h ⊢
      by_cases a6 : L.nameT (nextT l i) = true
      · rw [if_pos a6] at h ⊢; exact fin h
      · rw [if_neg a6] at h; simp at h
    rw [if_neg h6] at h ⊢
    by_cases h5 : m = 5
    · rw [if_pos h5] at h ⊢
      have al := hm.same i (hlt (by omega))
      rw [isT_alike al, isT_alike al]
      have hun : ∀ (op : Int), ((pa k l 5 (i + 1) e).bind fun r => (match r with | none => some none | some (i2, e2) => some (some (i2, e2 ++ [nodeO op ((e2.length : Int) - 1) 0])))) = some (some (i2, e2)) →
          ∃ e2', ((pa k l' 5 (i + d + 1) e').bind fun r => (match r with | none => some none | some (i2, e2) => some (some (i2, e2 ++ [nodeO op ((e2.length : Int) - 1) 0])))) = some (some (i2 + d, e2')) ∧ (e' = e → e2' = e2) := by
        intro op h
        obtain ⟨r, hr, h⟩ := Option.bind_eq_some_iff.1 h
        cases r with
        | none => simp at h
        | some p =>
          obtain ⟨i3, e3⟩ := p
          obtain ⟨e3', h3, h4⟩ := ih 5 (i + 1) e i3 e3 hr (by have := hlt (by omega); omega) (by omega) e'
          rw [show i + 1 + d = i + d + 1 by omega] at h3
          rw [h3]
          simp only [Option.some.injEq, Prod.mk.injEq] at h
          obtain ⟨rfl, rfl⟩ := h
          exact ⟨_, rfl, fun he => by rw [h4 he]⟩
      by_cases a1 : isT (nextT l i) [⟨#[110, 111, 116]⟩] = true
      · rw [if_pos a1] at h ⊢
        exact hun 1 h
      rw [if_neg a1] at h ⊢
      by_cases a2 : isT (nextT l i) [⟨#[45]⟩] = true
      · rw [if_pos a2] at h ⊢
        exact hun 2 h
      rw [if_neg a2] at h ⊢
      exact ih 6 i e i2 e2 h hi (by omega) e'
    rw [if_neg h5] at h ⊢
    by_cases h4 : m < 5
    · rw [if_pos h4] at h ⊢
      obtain ⟨r, hr, h⟩ := Option.bind_eq_some_iff.1 h
      cases r with
      | none => simp at h
      | some p =>
        obtain ⟨i3, e3⟩ := p
        have hv := pa_inv k l (m + 1) i e i3 e3 hr hi
        have hg := (pa_seg l hl k (m + 1) i e i3 e3 hr (by omega)).2.1 (by omega)
        obtain ⟨e3', h3, h4'⟩ := ih (m + 1) i e i3 e3 hr hi (by omega) e'
        obtain ⟨e4', h5', h6'⟩ := ih (m + 7) i3 e3 i2 e2 h hv.2.1 (by omega) e3'
        rw [h3]
        exact ⟨e4', h5', fun he => h6' (h4' he)⟩
    rw [if_neg h4] at h ⊢
    by_cases hil : i < l.length
    · have al := hm.same i hil
      rw [opIn_alike al]
      cases ho : opIn (levAt (m - 7)).signs (levAt (m - 7)).ops (nextT l i) with
      | none =>
        rw [ho] at h
        simp only [Option.some.injEq, Prod.mk.injEq] at h
        obtain ⟨rfl, rfl⟩ := h
        exact ⟨e', rfl, fun h => h⟩
      | some o =>
        rw [ho] at h
        dsimp only at h ⊢
        obtain ⟨r, hr, h⟩ := Option.bind_eq_some_iff.1 h
        cases r with
        | none => simp at h
        | some p =>
          obtain ⟨i3, e3⟩ := p
          have h11 : m - 7 < 5 := by
            by_cases h : m - 7 < 5
            · exact h
            · rw [lev_none h] at ho; simp [opIn] at ho
          have hv := pa_inv k l _ (i + 1) e i3 e3 hr (by omega)
          obtain ⟨e3', h3, h4'⟩ := ih (m - 7 + 1) (i + 1) e i3 e3 hr (by omega) (by omega) e'
          rw [show i + 1 + d = i + d + 1 by omega] at h3
          rw [h3]
          simp only at h
          simp only [Option.bind_some]
          by_cases hon : (levAt (m - 7)).once = true
          · rw [if_pos hon] at h ⊢
            simp only [Option.some.injEq, Prod.mk.injEq] at h
            obtain ⟨rfl, rfl⟩ := h
            exact ⟨_, rfl, fun he => by rw [h4' he, he]⟩
          · rw [if_neg hon] at h ⊢
            obtain ⟨e4', h5', h6'⟩ := ih m i3 _ i2 e2 h hv.2.1 (fun _ => by simp) (e3' ++ [nodeO o ((e'.length : Int) - 1) ((e3'.length : Int) - 1)])
            exact ⟨e4', h5', fun he => h6' (by rw [h4' he, he])⟩
    · have he : i = l.length := by omega
      rw [nextT_end hil, opIn_end] at h
      simp only [Option.some.injEq, Prod.mk.injEq] at h
      obtain ⟨rfl, rfl⟩ := h
      rw [he, opIn_close hm.stop]
      exact ⟨e', rfl, fun h => h⟩
def Fin (r : List Tk × Int × Nat) (P : List Tk → Prop) : Prop := r.2.1 ≠ 0 ∨ P r.1
def AlikeK (t u : Tk) : Prop := t.kind = u.kind ∧ t.text = u.text ∧ t.n = u.n
inductive AlikeL : List Tk → List Tk → Prop
  | nil : AlikeL [] []
  | cons {t u : Tk} {ts us : List Tk} (h : AlikeK t u) (hs : AlikeL ts us) : AlikeL (t :: ts) (u :: us)
theorem tokenAt_err0 {L : List UInt8} {i : Nat} {e : Int} (h : tokenAt L i = .error e) : e ≠ 0 := by
  unfold tokenAt at h
  repeat' split at h
  all_goals first
    | (cases h; done)
    | (simp only [Except.error.injEq] at h; omega)
theorem lex_step {J : List UInt8} {P : List Tk → Prop} {p q : Nat} {out : List Tk} {g : Nat} (hp : pend blankB J p = q) (hq : q < J.length) (hg : J.length - p < g) {k : Int} {t : List UInt8} {n : Int} {e : Nat} (ht : tokenAt J q = .ok (k, t, n, e)) (hqp : p ≤ q)
    (h : ∀ g', J.length - e < g' → Fin (lexGo J g' e (out ++ [⟨k, t, n, q⟩])) P) : Fin (lexGo J g p out) P := by
  obtain ⟨g, rfl⟩ : ∃ m, g = m + 1 := ⟨g - 1, by omega⟩
  have hle := tokenAt_le hq ht
  simp only [lexGo]
  rw [hp, if_neg (by omega)]
  by_cases h120 : out.length = 120
  · rw [if_pos h120]; exact Or.inl (show (13 : Int) ≠ 0 by decide)
  · rw [if_neg h120, ht]
    exact h g (by omega)
theorem lex_end {J : List UInt8} {P : List Tk → Prop} {p : Nat} {out : List Tk} {g : Nat} (hp : J.length ≤ pend blankB J p) (hg : 0 < g) (h : P out) : Fin (lexGo J g p out) P := by
  obtain ⟨g, rfl⟩ : ∃ m, g = m + 1 := ⟨g - 1, by omega⟩
  simp only [lexGo]
  rw [if_pos hp]
  exact Or.inr h
theorem pend_char {J X : List UInt8} {p : Nat} {c : UInt8} (hd : J.drop p = c :: X) (hc : blankB c = false) : pend blankB J p = p ∧ p < J.length := by
  have hl := congrArg List.length hd
  simp only [List.length_drop, List.length_cons] at hl
  exact ⟨pend_stop (by omega) (by rw [getD_of_drop hd]; exact hc), by omega⟩
theorem tok_sign {J X : List UInt8} {p : Nat} {c : UInt8} (hd : J.drop p = c :: X) (hc : c = 40 ∨ c = 41) : tokenAt J p = .ok (5, [c], 0, p + 1) := by
  have hs : signFind (c :: X) = some [c] := by rcases hc with rfl | rfl <;> rfl
  unfold tokenAt
  rw [getD_of_drop hd, hd, hs]
  rcases hc with rfl | rfl <;> rfl
theorem step_sign {J X : List UInt8} {P : List Tk → Prop} {p : Nat} {out : List Tk} {g : Nat} {c : UInt8} (hd : J.drop p = c :: X) (hc : c = 40 ∨ c = 41) (hg : J.length - p < g)
    (h : ∀ g', J.length - (p + 1) < g' → Fin (lexGo J g' (p + 1) (out ++ [⟨5, [c], 0, p⟩])) P) : Fin (lexGo J g p out) P := by
  obtain ⟨h1, h2⟩ := pend_char hd (by rcases hc with rfl | rfl <;> rfl)
  exact lex_step h1 h2 hg (tok_sign hd hc) (Nat.le_refl _) h
theorem step_text {L J R : List UInt8} {P : List Tk → Prop} : ∀ (f i : Nat) (out ts : List Tk) (q : Nat), lexGo L f i out = (ts, 0, q) → i ≤ L.length → ∃ new0, ts = out ++ new0 ∧
    ∀ (p g : Nat) (out' : List Tk), J.drop p = L.drop i ++ 41 :: R → J.length - p < g →
      (∀ (new : List Tk) (p' g' : Nat), AlikeL new new0 → J.drop p' = 41 :: R → J.length - p' < g' → Fin (lexGo J g' p' (out' ++ new)) P) → Fin (lexGo J g p out') P
  | 0, i, out, ts, q, h, _ => by simp [lexGo] at h
  | f + 1, i, out, ts, q, h, hi => by
    have hpl := pend_le (p := blankB) (L := L) (i := i) hi
    have hpi := le_pend blankB L i
    simp only [lexGo] at h
    by_cases h1 : L.length ≤ pend blankB L i
    · rw [if_pos h1] at h
      simp only [Prod.mk.injEq] at h
      refine ⟨[], by rw [List.append_nil]; exact h.1.symm, fun p g out' hd hg hc => ?_⟩
      -- blanks alone are left
      have hp := pend_brk (q := blankB) (by decide) hd
      have hd' := drop_brk (m := pend blankB L i - i) hd (by omega)
      rw [← hp, show i + (pend blankB L i - i) = L.length by omega, show L.drop L.length = [] from List.drop_eq_nil_of_le (Nat.le_refl _), List.nil_append] at hd'
      obtain ⟨h5, h6⟩ := pend_char hd' (by decide)
      have := hc [] (pend blankB J p) g .nil hd' (by omega)
      rw [List.append_nil] at this
      obtain ⟨g, rfl⟩ : ∃ m, g = m + 1 := ⟨g - 1, by omega⟩
      simp only [lexGo] at this ⊢
      rw [h5] at this
      exact this
    · rw [if_neg h1] at h
      by_cases h120 : out.length = 120
      · rw [if_pos h120] at h
        simp at h
      · rw [if_neg h120] at h
        cases ht : tokenAt L (pend blankB L i) with
        | error e =>
          rw [ht] at h
          simp only [Prod.mk.injEq] at h
          exact absurd h.2.1 (tokenAt_err0 ht)
        | ok x =>
          obtain ⟨k, t, n, e⟩ := x
          rw [ht] at h
          dsimp only at h
          have hle := tokenAt_le (by omega) ht
          obtain ⟨new0, hn, hk⟩ := step_text (J := J) (R := R) (P := P) f e _ ts q h hle.2
          refine ⟨⟨k, t, n, pend blankB L i⟩ :: new0, by rw [hn, List.append_assoc]; rfl, fun p g out' hd hg hc => ?_⟩
          have hp := pend_brk (q := blankB) (by decide) hd
          have hd' := drop_brk (m := pend blankB L i - i) hd (by omega)
          rw [← hp, show i + (pend blankB L i - i) = pend blankB L i by omega] at hd'
          have hlb := len_brk hd' hpl
          refine lex_step (q := pend blankB J p) rfl (by omega) hg (tok_brk (by omega) ht hd') (by omega) (fun g' hg' => ?_)
          have hd2 := drop_brk (m := e - pend blankB L i) hd' (by omega)
          rw [show pend blankB L i + (e - pend blankB L i) = e by omega] at hd2
          refine hk _ g' _ hd2 hg' (fun new p' g2 ha hd3 hg3 => ?_)
          rw [List.append_assoc]
          exact hc _ p' g2 (.cons ⟨rfl, rfl, rfl⟩ ha) hd3 hg3
theorem lex_text {L : List UInt8} (h : (lex L).2.1 = 0) {J R : List UInt8} {P : List Tk → Prop} (p g : Nat) (out' : List Tk) (hd : J.drop p = L ++ 41 :: R) (hg : J.length - p < g)
    (hc : ∀ (new : List Tk) (p' g' : Nat), AlikeL new (lex L).1 → J.drop p' = 41 :: R → J.length - p' < g' → Fin (lexGo J g' p' (out' ++ new)) P) : Fin (lexGo J g p out') P := by
  obtain ⟨new0, h1, h2⟩ := step_text (L := L) (J := J) (R := R) (P := P) (L.length + 1) 0 [] (lex L).1 (lex L).2.2 (by rw [← h]; rfl) (Nat.zero_le _)
  rw [List.nil_append] at h1
  rw [h1] at hc
  exact h2 p g out' (by rw [List.drop_zero]; exact hd) hg hc
theorem lex_one {S : List UInt8} (h : (lex S).2.1 = 0) : Fin (lex (40 :: (S ++ [41]))) (fun ts => ∃ new o c, AlikeL new (lex S).1 ∧ ts = [⟨5, [40], 0, o⟩] ++ new ++ [⟨5, [41], 0, c⟩]) := by
  generalize hJ : (40 :: (S ++ [41])) = J
  refine step_sign (c := 40) (X := S ++ [41]) (by rw [← hJ]; rfl) (Or.inl rfl) (by omega) (fun g' hg' => ?_)
  refine lex_text h _ g' _ (R := []) (by rw [← hJ]; rfl) hg' (fun new p' g2 ha hd hg2 => ?_)
  refine step_sign hd (Or.inr rfl) hg2 (fun g3 hg3 => ?_)
  have hl := congrArg List.length hd
  simp only [List.length_drop, List.length_cons, List.length_nil] at hl
  exact lex_end (by rw [pend_end (by omega)]; omega) (by omega) ⟨new, 0, p', ha, by simp⟩
theorem lex_two {S T W : List UInt8} (h : (lex S).2.1 = 0) (h2 : (lex T).2.1 = 0) (hw0 : 0 < W.length) (hw : W.all innerB = true) (hs : smallB (W.getD 0 0) = true) (hl : W.length ≤ 16) :
    Fin (lex (40 :: (S ++ 41 :: (32 :: (W ++ 32 :: 40 :: (T ++ [41])))))) (fun ts => ∃ new new2 o c w o2 c2, AlikeL new (lex S).1 ∧ AlikeL new2 (lex T).1 ∧ ts = [⟨5, [40], 0, o⟩] ++ new ++ [⟨5, [41], 0, c⟩, ⟨1, W, 0, w⟩, ⟨5, [40], 0, o2⟩] ++ new2 ++ [⟨5, [41], 0, c2⟩]) := by
  generalize hJ : (40 :: (S ++ 41 :: (32 :: (W ++ 32 :: 40 :: (T ++ [41]))))) = J
  refine step_sign (c := 40) (X := S ++ 41 :: (32 :: (W ++ 32 :: 40 :: (T ++ [41])))) (by rw [← hJ]; rfl) (Or.inl rfl) (by omega) (fun g' hg' => ?_)
  refine lex_text h _ g' _ (R := 32 :: (W ++ 32 :: 40 :: (T ++ [41]))) (by rw [← hJ]; rfl) hg' (fun new p' g2 ha hd hg2 => ?_)
  refine step_sign hd (Or.inr rfl) hg2 (fun g3 hg3 => ?_)
  -- the word
  have hd1 : J.drop (p' + 1) = 32 :: (W ++ 32 :: 40 :: (T ++ [41])) := by rw [← List.drop_drop, hd]; rfl
  have hd2 : J.drop (p' + 1 + 1) = W ++ 32 :: 40 :: (T ++ [41]) := by rw [← List.drop_drop, hd1]; rfl
  obtain ⟨w0, W', hW⟩ : ∃ w0 W', W = w0 :: W' := by cases W with | nil => simp at hw0 | cons a b => exact ⟨a, b, rfl⟩
  have hb0 : blankB w0 = false := by
    rw [hW] at hs
    have : smallB w0 = true := hs
    unfold smallB at this; unfold blankB
    simp only [Bool.and_eq_true, decide_eq_true_eq] at this
    exact beq_eq_false_iff_ne.2 (by omega)
  have hlen2 := congrArg List.length hd2
  simp only [List.length_drop, List.length_append, List.length_cons, List.length_nil] at hlen2
  have hpb : pend blankB J (p' + 1) = p' + 1 + 1 := by
    rw [pend_step (by omega) (by rw [getD_of_drop hd1]; rfl), pend_stop (by omega) (by rw [hW] at hd2; rw [getD_of_drop hd2]; exact hb0)]
  have hpe : pend innerB J (p' + 1 + 1) = p' + 1 + 1 + W.length := pend_stopped hd2 hw (fun c X' hx => by cases hx; decide)
  have hd3 : J.drop (p' + 1 + 1 + W.length) = 32 :: 40 :: (T ++ [41]) := drop_more hd2
  have htw : tokenAt J (p' + 1 + 1) = .ok (1, W, 0, p' + 1 + 1 + W.length) := by
    unfold tokenAt
    have hg0 : J.getD (p' + 1 + 1) 0 = W.getD 0 0 := by rw [hW] at hd2 ⊢; rw [getD_of_drop hd2]; rfl
    rw [hg0, if_pos hs, hpe, if_neg (by omega)]
    have hpg : pathGo J (J.length + 1) (p' + 1 + 1 + W.length) 1 = some (1, p' + 1 + 1 + W.length) := by
      unfold pathGo
      rw [if_neg]
      rintro ⟨_, h2, _⟩
      rw [getD_of_drop hd3] at h2
      exact absurd h2 (by decide)
    rw [hpg]
    dsimp only
    rw [if_neg (by omega), cut_of_drop hd2]
  refine lex_step hpb (by omega) hg3 htw (by omega) (fun g4 hg4 => ?_)
  -- a bracket behind a blank
  have hd4 : J.drop (p' + 1 + 1 + W.length + 1) = 40 :: (T ++ [41]) := by rw [← List.drop_drop, hd3]; rfl
  have hpb2 : pend blankB J (p' + 1 + 1 + W.length) = p' + 1 + 1 + W.length + 1 := by
    rw [pend_step (by omega) (by rw [getD_of_drop hd3]; rfl), pend_stop (by omega) (by rw [getD_of_drop hd4]; rfl)]
  refine lex_step hpb2 (by omega) hg4 (tok_sign hd4 (Or.inl rfl)) (by omega) (fun g5 hg5 => ?_)
  have hd5 : J.drop (p' + 1 + 1 + W.length + 1 + 1) = T ++ 41 :: [] := by rw [← List.drop_drop, hd4]; rfl
  refine lex_text h2 _ g5 _ hd5 hg5 (fun new2 p2 g6 ha2 hd6 hg6 => ?_)
  refine step_sign hd6 (Or.inr rfl) hg6 (fun g7 hg7 => ?_)
  have hl6 := congrArg List.length hd6
  simp only [List.length_drop, List.length_cons, List.length_nil] at hl6
  exact lex_end (by rw [pend_end (by omega)]; omega) (by omega) ⟨new, new2, 0, p', p' + 1 + 1, p' + 1 + 1 + W.length + 1, p2, ha, ha2, by simp⟩
end Go.Proofs.YtbngfhlciebeeaaDoor.Sp
end
