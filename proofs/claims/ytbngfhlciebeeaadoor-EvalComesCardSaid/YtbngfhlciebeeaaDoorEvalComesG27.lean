/- Printed and hand-written steps towards the row (EvalComes), those that it reaches. -/
import Derived.Test.YtbngfhlciebeeaaDoorEvalComesG25
import Derived.Test.YtbngfhlciebeeaaDoorEvalComesG19
import Derived.Test.YtbngfhlciebeeaaDoorEvalComesLxf62
import Derived.Test.YtbngfhlciebeeaaDoorEvalComesG3
import Derived.Test.YtbngfhlciebeeaaDoorEvalComesG4
section
namespace Go.Proofs.YtbngfhlciebeeaaDoor.Sp
set_option linter.unusedVariables false
set_option linter.unusedSimpArgs false
open Go.RowKit Go.Proofs.YtbngfhlciebeeaaDoorW.PrintWords Go.Proofs.YtbngfhlciebeeaaDoorW.PrintMore Go.Proofs.YtbngfhlciebeeaaDoor.L
def isErr (e : Int) : Prop := e = 21 ∨ e = 22 ∨ e = 15
def Comes (r : R4) (kd : Int) : Prop := (r.2.2.2 = 0 ∧ ValOk ⟨r.1, r.2.1, r.2.2.1⟩ ∧ Opn.I64 r.2.1 ∧ r.1 = kd) ∨ (isErr r.2.2.2 ∧ r.1 = 0 ∧ r.2.1 = 0 ∧ r.2.2.1 = ⟨#[]⟩)
theorem comes_ov (r : Int) : Comes (ovR r) 1 := by
  by_cases h : -9223372036854775808 ≤ r ∧ r ≤ 9223372036854775807
  · rw [ovR_in h]; exact Or.inl ⟨rfl, Or.inl ⟨rfl, rfl⟩, h, rfl⟩
  · rw [ovR_out h]; exact Or.inr ⟨Or.inl rfl, rfl, rfl, rfl⟩
theorem comes_tr (p : Bool) : Comes (trR p) 2 := by
  cases p
  · exact Or.inl ⟨rfl, Or.inr (Or.inl ⟨rfl, Or.inl rfl, rfl⟩), ⟨by decide, by decide⟩, rfl⟩
  · exact Or.inl ⟨rfl, Or.inr (Or.inl ⟨rfl, Or.inr rfl, rfl⟩), ⟨by decide, by decide⟩, rfl⟩
theorem comes_join {s t : ByteArray} (hs : PlainS s) (ht : PlainS t) : Comes (joinR s t) 3 := by
  unfold joinR
  by_cases h : s.size + t.size > 48
  · rw [if_pos h]; exact Or.inr ⟨Or.inr (Or.inr rfl), rfl, rfl, rfl⟩
  · rw [if_neg h]
    refine Or.inl ⟨rfl, Or.inr (Or.inr ⟨rfl, rfl, ?_⟩), (⟨by decide, by decide⟩ : Opn.I64 0), rfl⟩
    unfold PlainS at hs ht ⊢
    simp only [Bool.and_eq_true, decide_eq_true_eq] at hs ht ⊢
    refine ⟨?_, by rw [ByteArray.size_append]; omega⟩
    rw [ByteArray.data_append, Array.toList_append, List.all_append, hs.1, ht.1]; rfl
theorem comes_div {a b : Int} (ha : Opn.I64 a) (hb : Opn.I64 b) : Comes (divR a b) 1 := by
  unfold divR
  by_cases h : b = 0
  · rw [if_pos h]; exact Or.inr ⟨Or.inr (Or.inl rfl), rfl, rfl, rfl⟩
  · rw [if_neg h]; exact comes_ov _
theorem comes_rem {a b : Int} (ha : Opn.I64 a) (hb : Opn.I64 b) : Comes (remR a b) 1 := by
  unfold remR
  by_cases h : b = 0
  · rw [if_pos h]; exact Or.inr ⟨Or.inr (Or.inl rfl), rfl, rfl, rfl⟩
  · rw [if_neg h]; exact Or.inl ⟨rfl, Or.inl ⟨rfl, rfl⟩, tmod_in hb h, rfl⟩
theorem resK_val {op a b : Int} (ho : 1 ≤ op ∧ op ≤ 15) (h : resK op a b ≠ 0) : resK op a b = (if op = 1 then 2 else if op ≤ 5 then 1 else if op = 6 then a else if op = 7 then 1 else 2) := by
  rcases op_cases ho with rfl | rfl | rfl | rfl | rfl | rfl | rfl | rfl | rfl | rfl | rfl | rfl | rfl | rfl | rfl
  all_goals (simp [resK] at h ⊢)
  all_goals (first | omega | simp_all)
theorem reck_comes {op : Int} {a b : S103} (ho : 1 ≤ op ∧ op ≤ 15) (ha : ValOk a) (hb : ValOk b) (ia : Opn.I64 a.f1) (ib : Opn.I64 b.f1) (hr : resK op a.f0 b.f0 ≠ 0) : Comes (reckR op a b) (resK op a.f0 b.f0) := by
  have hk := resK_val ho hr
  by_cases h2 : op ≤ 2
  · rcases (show op = 1 ∨ op = 2 by omega) with rfl | rfl
    · rw [hk]; exact comes_tr _
    · rw [hk]; exact comes_ov _
  obtain ⟨k1, k2, k3, k4, k5⟩ := resK_kinds hr (by omega)
  rw [hk]
  rcases op_cases ho with rfl | rfl | rfl | rfl | rfl | rfl | rfl | rfl | rfl | rfl | rfl | rfl | rfl | rfl | rfl
  · omega
  · omega
  · exact comes_ov _
  · exact comes_div ia ib
  · exact comes_rem ia ib
  · show Comes (if a.f0 = 3 then joinR a.f2 b.f2 else ovR (a.f1 + b.f1)) a.f0
    rcases k3 rfl with e | e
    · rw [if_neg (by omega), e]; exact comes_ov _
    · rw [if_pos e, e]
      refine comes_join ?_ ?_
      · rcases ha with h | h | h
        · omega
        · omega
        · exact h.2.2
      · rcases hb with h | h | h
        · omega
        · omega
        · exact h.2.2
  · exact comes_ov _
  all_goals exact comes_tr _
def lookC (s : ByteArray) : List S116 → Option S103
  | [] => none
  | v :: vs => if v.f0 = s then some v.f1 else lookC s vs
theorem lookC_idx (s : ByteArray) : ∀ (vs : List S116), (match vs.findIdx? (fun x => decide (x.f0 = s)) with | some j => j < vs.length ∧ lookC s vs = some (vs.getD j ⟨⟨#[]⟩, ⟨0, 0, ⟨#[]⟩⟩⟩).f1 | none => lookC s vs = none)
  | [] => rfl
  | v :: vs => by
    have ih := lookC_idx s vs
    rw [List.findIdx?_cons]
    by_cases h : v.f0 = s
    · rw [decide_eq_true h]
      simp only [if_true]
      exact ⟨by simp, by simp [lookC, h]⟩
    · rw [decide_eq_false h]
      simp only [Bool.false_eq_true, if_false]
      cases hx : vs.findIdx? (fun x => decide (x.f0 = s)) with
      | none => rw [hx] at ih; simp [lookC, h]; exact ih
      | some j =>
        rw [hx] at ih
        simp only [Option.map_some, lookC, if_neg h]
        exact ⟨by simp; exact ih.1, by simpa using ih.2⟩
theorem efind_eq (vs : List S116) (ss : List ByteArray) (s : ByteArray) : eval_Env_find.f vs ss s = some (match lookC s vs with | some v => (v.f0, v.f1, v.f2, 0) | none => (0, 0, ⟨#[]⟩, 24)) := by
  have h := lookC_idx s vs
  unfold eval_Env_find.f
  cases hx : vs.findIdx? (fun x => decide (x.f0 = s)) with
  | none =>
    rw [hx] at h
    have : idxCell s vs = -1 := by unfold idxCell; rw [hx]
    rw [this, h]; rfl
  | some j =>
    rw [hx] at h
    have : idxCell s vs = (j : Int) := by unfold idxCell; rw [hx]
    obtain ⟨h1, h2⟩ := h
    rw [this, if_pos (by omega), rd116 h1, h2, List.getD_eq_getElem?_getD]
    simp only [List.getElem?_eq_getElem h1]
    rfl
theorem rd166 {l : List S116} {j : Nat} (h : j < l.length) : rd_T166 (l.map c166) (j : Int) = c166 l[j] := by
  unfold rd_T166
  rw [Int.toNat_natCast, List.getD_eq_getElem?_getD, List.getElem?_map, List.getElem?_eq_getElem h]
  rfl
theorem efind_l0 (vs : List S116) (hv : vs.length ≤ 1000) (x : S156) : ∀ (d j : Nat), j ≤ vs.length → vs.length - j = d →
    Ev (fun k => whirligigref05_Eval.l0 k (vs.map c166) (j : Int) x.f0 x.f1.f0 x.f1.f1 x.f1.f2 x.f2 x.f3 x.f4) (match lookC x.f2 (vs.drop j) with | some v => (v.f0, v.f1, v.f2, 0) | none => (0, 0, ⟨#[]⟩, 24)) := by
  intro d
  induction d with
  | zero =>
    intro j hj hd
    refine Ev.succ ?_
    simp only [whirligigref05_Eval.l0]
    rw [List.drop_eq_nil_of_le (by omega)]
    exact Ev.neg (by simp; omega) (Ev.some rfl)
  | succ d ih =>
    intro j hj hd
    have hjl : j < vs.length := by omega
    refine Ev.succ ?_
    simp only [whirligigref05_Eval.l0]
    rw [rd166 hjl, up1 (by omega), List.drop_eq_getElem_cons hjl]
    refine Ev.pos (by simp; omega) (Ev.pos (by omega) ?_)
    by_cases h : vs[j].f0 = x.f2
    · simp only [lookC, if_pos h]
      exact Ev.pos (toL_inj.2 h) (Ev.some rfl)
    · simp only [lookC, if_neg h]
      exact Ev.neg (fun e => h (toL_inj.1 e)) (ih (j + 1) (by omega) (by omega))
theorem efind_l1 (ss : List ByteArray) (hs : ss.length ≤ 8796093022208) (x : S156) : ∀ (d j : Nat), j ≤ ss.length → ss.length - j = d →
    Ev (fun k => whirligigref05_Eval.l1 k ss (j : Int) x.f0 x.f1.f0 x.f1.f1 x.f1.f2 x.f2 x.f3 x.f4) (trR (hasS x.f2 (ss.drop j))) := by
  intro d
  induction d with
  | zero =>
    intro j hj hd
    refine Ev.succ ?_
    simp only [whirligigref05_Eval.l1]
    rw [List.drop_eq_nil_of_le (by omega)]
    exact Ev.neg (by omega) (Ev.some rfl)
  | succ d ih =>
    intro j hj hd
    have hjl : j < ss.length := by omega
    refine Ev.succ ?_
    simp only [whirligigref05_Eval.l1]
    rw [rdB hjl, up1 (by omega), List.drop_eq_getElem_cons hjl]
    refine Ev.pos (by omega) (Ev.pos (by omega) ?_)
    by_cases h : ss[j] = x.f2
    · rw [hasS_cons, decide_eq_true h]
      exact Ev.pos (toL_inj.2 h) (Ev.some rfl)
    · rw [show hasS x.f2 (ss[j] :: ss.drop (j + 1)) = hasS x.f2 (ss.drop (j + 1)) by rw [hasS_cons, decide_eq_false h]; rfl]
      exact Ev.neg (fun e => h (toL_inj.1 e)) (ih (j + 1) (by omega) (by omega))
def k118 (x : S116) : S118 := ⟨x.f0, x.f1.f0⟩
theorem look_kind (s : ByteArray) : ∀ vs : List S116, lookV s (vs.map k118) = (lookC s vs).map (·.f0)
  | [] => rfl
  | v :: vs => by
    simp only [List.map_cons, lookV, lookC]
    by_cases h : v.f0 = s
    · rw [if_pos (show (k118 v).f0 = s from h), if_pos h]; rfl
    · rw [if_neg (show ¬ (k118 v).f0 = s from h), if_neg h]; exact look_kind s vs
theorem look_ok (s : ByteArray) {p : S103 → Prop} : ∀ (vs : List S116), (∀ x ∈ vs, p x.f1) → ∀ v, lookC s vs = some v → p v
  | [], _, v, h => by cases h
  | x :: vs, hp, v, h => by
    simp only [lookC] at h
    by_cases hx : x.f0 = s
    · rw [if_pos hx] at h; rw [← Option.some.inj h]; exact hp x List.mem_cons_self
    · rw [if_neg hx] at h; exact look_ok s vs (fun y hy => hp y (List.mem_cons_of_mem _ hy)) v h
def enR (op : Int) (a : S103) : Bool := decide (a.f0 = 2) && ((op == 14 && a.f1 == 0) || (op == 15 && a.f1 != 0))
theorem enough_eq (op : Int) (a : S103) : eval_enough.f op a.f0 a.f1 a.f2 = some (enR op a) := by
  unfold eval_enough.f enR val_Value_Yes.f
  by_cases h2 : a.f0 = 2
  · simp only [if_pos h2, Option.bind_some, decide_eq_true h2, Bool.true_and]
    by_cases h14 : op = 14
    · subst h14
      by_cases h0 : a.f1 = 0
      · simp [h0]
      · simp [h0]
    · by_cases h15 : op = 15
      · subst h15
        simp
      · simp [h14, h15]
  · simp [h2]
def zV : S103 := ⟨0, 0, ⟨#[]⟩⟩
section
variable {l : List S156} {vs : List S118} {ss : List ByteArray}
theorem of_one {b : Nat} {x : S156} (h : l[b + 1]? = some x) (o : x.f0 = 1 ∨ x.f0 = 2) (h3 : x.f3 = (b : Int)) {ka ea aa : Int} (r1 : Ev (fun k => whirligigref04_Of.f k (l.map ref159) (b : Int) (vs.map v151) ss) (ka, ea, aa)) :
    Ev (fun k => whirligigref04_Of.f k (l.map ref159) ((b + 1 : Nat) : Int) (vs.map v151) ss) (if ea = 0 then (if resK x.f0 ka 0 = 0 then (0, 20, ((b + 1 : Nat) : Int)) else (resK x.f0 ka 0, 0, 0)) else (0, ea, aa)) := by
  have hb := (List.getElem?_eq_some_iff.1 h).1
  have hx : l[b + 1] = x := (List.getElem?_eq_some_iff.1 h).2
  have hm : (l.map ref159).length = l.length := List.length_map ..
  have ho : 1 ≤ x.f0 ∧ x.f0 ≤ 15 := by omega
  refine Ev.succ ?_
  simp only [whirligigref04_Of.f]
  rw [rd159 hb, hx]
  refine Ev.pos (by omega) (Ev.pos (by omega) (Ev.neg (show ¬ x.f0 = 0 by omega) (Ev.neg (show ¬ x.f0 = 16 by omega) (Ev.neg (show ¬ x.f0 = 17 by omega) ?_))))
  refine Ev.bind (a := (ka, ea, aa)) (by rw [show (ref159 x).f3 = (b : Int) from h3]; exact r1) ?_
  have hd : decide ((ref159 x).f0 > 2) = false := decide_eq_false (show ¬ x.f0 > 2 by omega)
  by_cases e : ea = 0
  · rw [if_pos e]
    refine Ev.pos e (Ev.succ ?_)
    simp only [whirligigref04_Of.j2]
    rw [hd]
    refine Ev.neg (by decide) (Ev.succ ?_)
    simp only [whirligigref04_Of.j3]
    refine Ev.pos e (Ev.bind (rResult_ev ho ka 0) ?_)
    by_cases g : resK x.f0 ka 0 = 0
    · exact Ev.pos g (Ev.some (if_pos g).symm)
    · exact Ev.neg g (Ev.some (if_neg g).symm)
  · rw [if_neg e]
    refine Ev.neg e (Ev.succ ?_)
    simp only [whirligigref04_Of.j2]
    refine Ev.neg (by decide) (Ev.succ ?_)
    simp only [whirligigref04_Of.j3]
    exact Ev.neg e (Ev.some rfl)
theorem of_two {b c : Nat} {x : S156} (h : l[b + 1]? = some x) (o : 3 ≤ x.f0 ∧ x.f0 ≤ 15) (h3 : x.f3 = (c : Int)) (h4 : x.f4 = (b : Int)) {ka ea aa kb eb ab : Int} (r1 : Ev (fun k => whirligigref04_Of.f k (l.map ref159) (c : Int) (vs.map v151) ss) (ka, ea, aa))
    (q1 : Ev (fun k => whirligigref04_Of.f k (l.map ref159) (b : Int) (vs.map v151) ss) (kb, eb, ab)) :
    Ev (fun k => whirligigref04_Of.f k (l.map ref159) ((b + 1 : Nat) : Int) (vs.map v151) ss) (if ea = 0 then (if eb = 0 then (if resK x.f0 ka kb = 0 then (0, 20, ((b + 1 : Nat) : Int)) else (resK x.f0 ka kb, 0, 0)) else (0, eb, ab)) else (0, ea, aa)) := by
  have hb := (List.getElem?_eq_some_iff.1 h).1
  have hx : l[b + 1] = x := (List.getElem?_eq_some_iff.1 h).2
  have hm : (l.map ref159).length = l.length := List.length_map ..
  have ho : 1 ≤ x.f0 ∧ x.f0 ≤ 15 := by omega
  refine Ev.succ ?_
  simp only [whirligigref04_Of.f]
  rw [rd159 hb, hx]
  refine Ev.pos (by omega) (Ev.pos (by omega) (Ev.neg (show ¬ x.f0 = 0 by omega) (Ev.neg (show ¬ x.f0 = 16 by omega) (Ev.neg (show ¬ x.f0 = 17 by omega) ?_))))
  refine Ev.bind (a := (ka, ea, aa)) (by rw [show (ref159 x).f3 = (c : Int) from h3]; exact r1) ?_
  have hd : decide ((ref159 x).f0 > 2) = true := decide_eq_true (show x.f0 > 2 by omega)
  by_cases e : ea = 0
  · rw [if_pos e]
    refine Ev.pos e (Ev.succ ?_)
    simp only [whirligigref04_Of.j2]
    rw [hd]
    refine Ev.pos rfl (Ev.bind (a := (kb, eb, ab)) (by rw [show (ref159 x).f4 = (b : Int) from h4]; exact q1) (Ev.succ ?_))
    simp only [whirligigref04_Of.j3]
    by_cases e2 : eb = 0
    · rw [if_pos e2]
      refine Ev.pos e2 (Ev.bind (rResult_ev ho ka kb) ?_)
      by_cases g : resK x.f0 ka kb = 0
      · exact Ev.pos g (Ev.some (if_pos g).symm)
      · exact Ev.neg g (Ev.some (if_neg g).symm)
    · rw [if_neg e2]
      exact Ev.neg e2 (Ev.some rfl)
  · rw [if_neg e]
    refine Ev.neg e (Ev.succ ?_)
    simp only [whirligigref04_Of.j2]
    refine Ev.neg (by decide) (Ev.succ ?_)
    simp only [whirligigref04_Of.j3]
    exact Ev.neg e (Ev.some rfl)
end
section
variable {l : List S156} {cs : List S116} {ss st : List ByteArray}
structure NodeEv (l : List S156) (cs : List S116) (ss : List ByteArray) (b : Nat) (v : S103) (err : Int) : Prop where
  prog : Ev (fun k => eval_machine_node.f k cs ss l (b : Int)) (v.f0, v.f1, v.f2, err)
  doc : Ev (fun k => whirligigref05_Eval.f k (l.map ref159) (b : Int) (cs.map c166) ss) (v.f0, v.f1, v.f2, err)
  ok : err = 0 → ValOk v ∧ Opn.I64 v.f1
  no : err ≠ 0 → v = zV
theorem node_reck {r : R4} {op ka kb : Int} {b : Nat} (hp : Ev (fun k => eval_machine_node.f k cs ss l (b : Int)) (if resK op ka kb = 0 then (0, 0, ⟨#[]⟩, 20) else r))
    (hd : Ev (fun k => whirligigref05_Eval.f k (l.map ref159) (b : Int) (cs.map c166) ss) (if resK op ka kb = 0 then (0, 0, ⟨#[]⟩, 20) else r)) (hc : resK op ka kb ≠ 0 → Comes r (resK op ka kb)) :
    ∃ v err, NodeEv l cs ss b v err ∧ (resK op ka kb ≠ 0 → (err = 0 → v.f0 = resK op ka kb) ∧ (err ≠ 0 → isErr err)) := by
  by_cases g : resK op ka kb = 0
  · rw [if_pos g] at hp hd
    exact ⟨zV, 20, ⟨hp, hd, fun h => absurd h (by decide), fun _ => rfl⟩, fun h => absurd g h⟩
  · rw [if_neg g] at hp hd
    obtain ⟨r1, r2, r3, r4⟩ := r
    rcases hc g with ⟨h1, h2, h3, h4⟩ | ⟨h1, h2, h3, h4⟩
    · exact ⟨⟨r1, r2, r3⟩, r4, ⟨hp, hd, fun _ => ⟨h2, h3⟩, fun h => absurd h1 h⟩, fun _ => ⟨fun _ => h4, fun h => absurd h1 h⟩⟩
    · simp only at h1 h2 h3 h4
      subst h2 h3 h4
      have hne : r4 ≠ 0 := by rcases h1 with h1 | h1 | h1 <;> omega
      exact ⟨zV, r4, ⟨hp, hd, fun h => absurd h hne, fun _ => rfl⟩, fun _ => ⟨fun h => absurd h hne, fun _ => h1⟩⟩
theorem reck_comes1 {op : Int} {a : S103} (ho : op = 1 ∨ op = 2) (hr : resK op a.f0 0 ≠ 0) : Comes (reckR op a zV) (resK op a.f0 0) := by
  have hk := resK_val (show 1 ≤ op ∧ op ≤ 15 by omega) hr
  rcases ho with rfl | rfl
  · rw [hk]; exact comes_tr _
  · rw [hk]; exact comes_ov _
theorem eval_seg (hl : l.length ≤ 1000) (hcs : cs.length ≤ 1000) (hss : ss.length ≤ 1000) (hst : st.length ≤ 1000) (hok : ∀ (j : Nat) (x : S156), l[j]? = some x → NodeOk x j) (hv : ∀ x ∈ cs, ValOk x.f1 ∧ Opn.I64 x.f1.f1) {a b : Nat} (s : Seg l a b) :
    ∃ v err, NodeEv l cs ss b v err ∧ ∀ kd at_, Ev (fun k => whirligigref04_Of.f k (l.map ref159) (b : Int) ((cs.map k118).map v151) st) (kd, 0, at_) → (err = 0 → v.f0 = kd) ∧ (err ≠ 0 → isErr err) := by
  have hm : (l.map ref159).length = l.length := List.length_map ..
  have hks : (cs.map k118).length ≤ 1000 := by rw [List.length_map]; exact hcs
  induction s with
  | @leaf b x h o =>
    have hb := (List.getElem?_eq_some_iff.1 h).1
    have hx : l[b] = x := (List.getElem?_eq_some_iff.1 h).2
    have hn := hok b x h
    rcases o with o | o | o
    · -- a literal
      have hval : ValOk x.f1 ∧ Opn.I64 x.f1.f1 := by
        cases hn with
        | lit v g g1 =>
          refine ⟨g, ?_⟩
          show Opn.I64 v.f1
          unfold Opn.I64
          rcases g with g | g | g
          · have := g1 g.1; omega
          · rcases g.2.1 with g | g <;> omega
          · omega
        | name op s o' g => exfalso; simp only [nodeN] at o; omega
        | one op o' g => exfalso; simp only [nodeO] at o; omega
        | two op c o' g0 g1 => exfalso; simp only [nodeO] at o; omega
      refine ⟨x.f1, 0, ⟨Ev.succ ?_, Ev.succ ?_, fun _ => hval, fun h => absurd rfl h⟩, fun kd at_ hk => ⟨fun _ => ?_, fun h => absurd rfl h⟩⟩
      · simp only [eval_machine_node.f]
        rw [rd156 hb, hx]
        exact Ev.pos (by omega) (Ev.pos (by omega) (Ev.pos o (Ev.some rfl)))
      · simp only [whirligigref05_Eval.f]
        rw [rd159 hb, hx]
        exact Ev.pos (by omega) (Ev.pos (by omega) (Ev.pos o (Ev.some rfl)))
      · have h2 : Ev (fun k => whirligigref04_Of.f k (l.map ref159) (b : Int) ((cs.map k118).map v151) st) (x.f1.f0, 0, 0) := Ev.succ (by
          simp only [whirligigref04_Of.f]
          rw [rd159 hb, hx]
          exact Ev.pos (by omega) (Ev.pos (by omega) (Ev.pos o (Ev.some rfl))))
        have := h2.uniq hk
        exact congrArg (·.1) this
    · -- a name
      have ho : ¬ x.f0 = 0 := by omega
      have hr := efind_l0 cs hcs x cs.length 0 (by omega) (by omega)
      rw [List.drop_zero] at hr
      have hf := efind_eq cs ss x.f2
      have hkd := rfind_l0 (b : Int) (cs.map k118) hks x (cs.map k118).length 0 (by omega) (by omega)
      rw [List.drop_zero, look_kind] at hkd
      cases hlk : lookC x.f2 cs with
      | none =>
        rw [hlk] at hr hf hkd
        refine ⟨zV, 24, ⟨Ev.succ ?_, Ev.succ ?_, fun h => absurd h (by decide), fun _ => rfl⟩, fun kd at_ hk => ?_⟩
        · simp only [eval_machine_node.f]
          rw [rd156 hb, hx]
          exact Ev.pos (by omega) (Ev.pos (by omega) (Ev.neg ho (Ev.pos o (Ev.bind_some hf (Ev.some rfl)))))
        · simp only [whirligigref05_Eval.f]
          rw [rd159 hb, hx]
          exact Ev.pos (by omega) (Ev.pos (by omega) (Ev.neg ho (Ev.pos o hr)))
        · have h2 : Ev (fun k => whirligigref04_Of.f k (l.map ref159) (b : Int) ((cs.map k118).map v151) st) (0, 24, (b : Int)) := Ev.succ (by
            simp only [whirligigref04_Of.f]
            rw [rd159 hb, hx]
            exact Ev.pos (by omega) (Ev.pos (by omega) (Ev.neg ho (Ev.pos o hkd))))
          exact absurd (congrArg (·.2.1) (h2.uniq hk)) (show ¬ (24 : Int) = 0 by decide)
      | some v =>
        rw [hlk] at hr hf hkd
        have hval := look_ok x.f2 (p := fun v => ValOk v ∧ Opn.I64 v.f1) cs hv v hlk
        refine ⟨v, 0, ⟨Ev.succ ?_, Ev.succ ?_, fun _ => hval, fun h => absurd rfl h⟩, fun kd at_ hk => ⟨fun _ => ?_, fun h => absurd rfl h⟩⟩
        · simp only [eval_machine_node.f]
          rw [rd156 hb, hx]
          exact Ev.pos (by omega) (Ev.pos (by omega) (Ev.neg ho (Ev.pos o (Ev.bind_some hf (Ev.some rfl)))))
        · simp only [whirligigref05_Eval.f]
          rw [rd159 hb, hx]
          exact Ev.pos (by omega) (Ev.pos (by omega) (Ev.neg ho (Ev.pos o hr)))
        · have h2 : Ev (fun k => whirligigref04_Of.f k (l.map ref159) (b : Int) ((cs.map k118).map v151) st) (v.f0, 0, 0) := Ev.succ (by
            simp only [whirligigref04_Of.f]
            rw [rd159 hb, hx]
            exact Ev.pos (by omega) (Ev.pos (by omega) (Ev.neg ho (Ev.pos o hkd))))
          exact congrArg (·.1) (h2.uniq hk)
    · -- a state
      have ho : ¬ x.f0 = 0 := by omega
      have ho' : ¬ x.f0 = 16 := by omega
      have hr := efind_l1 ss (by omega) x ss.length 0 (by omega) (by omega)
      rw [List.drop_zero] at hr
      have hf := contains_ev ss (by omega) x.f2
      have hc := comes_tr (hasS x.f2 ss)
      have hkd := rfind_l1 (b : Int) st (by omega) x st.length 0 (by omega) (by omega)
      rw [List.drop_zero] at hkd
      have key : ∃ v : S103, trR (hasS x.f2 ss) = (v.f0, v.f1, v.f2, 0) ∧ ValOk v ∧ Opn.I64 v.f1 ∧ v.f0 = 2 := by
        cases hasS x.f2 ss
        · exact ⟨⟨2, 0, ⟨#[]⟩⟩, rfl, Or.inr (Or.inl ⟨rfl, Or.inl rfl, rfl⟩), (⟨by decide, by decide⟩ : Opn.I64 0), rfl⟩
        · exact ⟨⟨2, 1, ⟨#[]⟩⟩, rfl, Or.inr (Or.inl ⟨rfl, Or.inr rfl, rfl⟩), (⟨by decide, by decide⟩ : Opn.I64 1), rfl⟩
      obtain ⟨v, k1, k2, k3, k4⟩ := key
      refine ⟨v, 0, ⟨Ev.succ ?_, Ev.succ ?_, fun _ => ⟨k2, k3⟩, fun h => absurd rfl h⟩, fun kd at_ hk => ⟨fun _ => ?_, fun h => absurd rfl h⟩⟩
      · simp only [eval_machine_node.f, vTruth]
        rw [rd156 hb, hx, ← k1]
        exact Ev.pos (by omega) (Ev.pos (by omega) (Ev.neg ho (Ev.neg ho' (Ev.pos o (Ev.bind hf (Ev.some rfl))))))
      · simp only [whirligigref05_Eval.f]
        rw [rd159 hb, hx, ← k1]
        exact Ev.pos (by omega) (Ev.pos (by omega) (Ev.neg ho (Ev.neg ho' (Ev.pos o hr))))
      · have h2 : Ev (fun k => whirligigref04_Of.f k (l.map ref159) (b : Int) ((cs.map k118).map v151) st) (if hasS x.f2 st = true then (2, 0, 0) else (0, 24, (b : Int))) := Ev.succ (by
          simp only [whirligigref04_Of.f]
          rw [rd159 hb, hx]
          exact Ev.pos (by omega) (Ev.pos (by omega) (Ev.neg ho (Ev.neg ho' (Ev.pos o hkd)))))
        have h3 := h2.uniq hk
        by_cases g : hasS x.f2 st = true
        · rw [if_pos g] at h3
          rw [k4]; exact congrArg (·.1) h3
        · rw [if_neg g] at h3
          exact absurd (congrArg (·.2.1) h3) (show ¬ (24 : Int) = 0 by decide)
  | @one a b x h o h3 s ih =>
    have hb := (List.getElem?_eq_some_iff.1 h).1
    have hx : l[b + 1] = x := (List.getElem?_eq_some_iff.1 h).2
    have ho : 1 ≤ x.f0 ∧ x.f0 ≤ 15 := by omega
    obtain ⟨v, err, hn, ht⟩ := ih
    obtain ⟨ka, ea, aa, hk1, hk2, _⟩ := kind_seg (vs := cs.map k118) (ss := st) hl hks hst hok s
    have hof := of_one h o h3 hk1
    by_cases he : err = 0
    · subst he
      obtain ⟨hv1, hv2⟩ := hn.ok rfl
      have hres := node_reck (l := l) (cs := cs) (ss := ss) (r := reckR x.f0 v zV) (op := x.f0) (ka := v.f0) (kb := 0) (b := b + 1) ?_ ?_ (fun hr => reck_comes1 o hr)
      · obtain ⟨w, e, h1, h2⟩ := hres
        refine ⟨w, e, h1, fun kd at_ hk => ?_⟩
        have h4 := hof.uniq hk
        by_cases g : ea = 0
        · rw [if_pos g] at h4
          subst g
          have h5 := (ht ka aa hk1).1 rfl
          rw [h5] at h2
          by_cases g2 : resK x.f0 ka 0 = 0
          · rw [if_pos g2] at h4
            exact absurd (congrArg (·.2.1) h4) (show ¬ (20 : Int) = 0 by decide)
          · rw [if_neg g2] at h4
            have h6 : resK x.f0 ka 0 = kd := congrArg (·.1) h4
            rw [← h6]
            exact h2 g2
        · rw [if_neg g] at h4
          exact absurd (congrArg (·.2.1) h4) g
      · refine Ev.succ ?_
        simp only [eval_machine_node.f, bind4]
        rw [rd156 hb, hx, h3]
        exact Ev.pos (by omega) (Ev.pos (by omega) (Ev.neg (by omega) (Ev.neg (by omega) (Ev.neg (by omega) (Ev.bind hn.prog (Ev.pos rfl (Ev.pos (by omega) (vReckon1 hv2 o zV))))))))
      · refine Ev.succ ?_
        simp only [whirligigref05_Eval.f]
        rw [rd159 hb, hx]
        refine Ev.pos (by omega) (Ev.pos (by omega) (Ev.neg (show ¬ x.f0 = 0 by omega) (Ev.neg (show ¬ x.f0 = 16 by omega) (Ev.neg (show ¬ x.f0 = 17 by omega) (Ev.bind (a := (v.f0, v.f1, v.f2, 0)) ?_ (Ev.pos rfl (Ev.neg (show ¬ x.f0 > 2 by omega) (Ev.succ ?_))))))))
        · rw [show (ref159 x).f3 = (b : Int) from h3]; exact hn.doc
        · simp only [whirligigref05_Eval.j3, bind4]
          refine Ev.bind (rResult_ev ho v.f0 0) ?_
          by_cases g : resK x.f0 v.f0 0 = 0
          · rw [if_pos g]; exact Ev.pos g (Ev.some rfl)
          · rw [if_neg g]; exact Ev.neg g (rReckon1 hv2 o zV)
    · have hz := hn.no he
      subst hz
      refine ⟨zV, err, ⟨Ev.succ ?_, Ev.succ ?_, fun h => absurd h he, fun _ => rfl⟩, fun kd at_ hk => ⟨fun h => absurd h he, fun _ => ?_⟩⟩
      · simp only [eval_machine_node.f, bind4]
        rw [rd156 hb, hx, h3]
        exact Ev.pos (by omega) (Ev.pos (by omega) (Ev.neg (by omega) (Ev.neg (by omega) (Ev.neg (by omega) (Ev.bind hn.prog (Ev.neg he (Ev.some rfl)))))))
      · simp only [whirligigref05_Eval.f]
        rw [rd159 hb, hx]
        refine Ev.pos (by omega) (Ev.pos (by omega) (Ev.neg (show ¬ x.f0 = 0 by omega) (Ev.neg (show ¬ x.f0 = 16 by omega) (Ev.neg (show ¬ x.f0 = 17 by omega) (Ev.bind (a := (0, 0, ⟨#[]⟩, err)) ?_ (Ev.neg he (Ev.some rfl)))))))
        rw [show (ref159 x).f3 = (b : Int) from h3]; exact hn.doc
      · have h4 := hof.uniq hk
        by_cases g : ea = 0
        · subst g
          exact (ht ka aa hk1).2 he
        · rw [if_neg g] at h4
          exact absurd (congrArg (·.2.1) h4) g
  | @two a b c x h o h3 h4 s t i1 i2 =>
    have hb := (List.getElem?_eq_some_iff.1 h).1
    have hx : l[b + 1] = x := (List.getElem?_eq_some_iff.1 h).2
    have hle := s.le
    have hlt := t.le
    have ho : 1 ≤ x.f0 ∧ x.f0 ≤ 15 := by omega
    obtain ⟨v, err, hn, ht⟩ := i1
    obtain ⟨w, er2, hn2, ht2⟩ := i2
    obtain ⟨ka, ea, aa, hk1, _, _⟩ := kind_seg (vs := cs.map k118) (ss := st) hl hks hst hok s
    obtain ⟨kb, eb, ab, hj1, _, _⟩ := kind_seg (vs := cs.map k118) (ss := st) hl hks hst hok t
    have hof := of_two h o h3 h4 hk1 hj1
    -- a kind of the whole: kinds of the parts
    have hkinds : ∀ kd at_, Ev (fun k => whirligigref04_Of.f k (l.map ref159) ((b + 1 : Nat) : Int) ((cs.map k118).map v151) st) (kd, 0, at_) → ea = 0 ∧ eb = 0 ∧ resK x.f0 ka kb ≠ 0 ∧ kd = resK x.f0 ka kb := fun kd at_ hk => by
      have h5 := hof.uniq hk
      by_cases g : ea = 0
      · rw [if_pos g] at h5
        by_cases g2 : eb = 0
        · rw [if_pos g2] at h5
          by_cases g3 : resK x.f0 ka kb = 0
          · rw [if_pos g3] at h5
            exact absurd (congrArg (·.2.1) h5) (show ¬ (20 : Int) = 0 by decide)
          · rw [if_neg g3] at h5
            exact ⟨g, g2, g3, (congrArg (·.1) h5).symm⟩
        · rw [if_neg g2] at h5
          exact absurd (congrArg (·.2.1) h5) g2
      · rw [if_neg g] at h5
        exact absurd (congrArg (·.2.1) h5) g
    by_cases he : err = 0
    rotate_left
    · have hz := hn.no he
      subst hz
      refine ⟨zV, err, ⟨Ev.succ ?_, Ev.succ ?_, fun h => absurd h he, fun _ => rfl⟩, fun kd at_ hk => ⟨fun h => absurd h he, fun _ => ?_⟩⟩
      · simp only [eval_machine_node.f, bind4]
        rw [rd156 hb, hx, h3]
        exact Ev.pos (by omega) (Ev.pos (by omega) (Ev.neg (by omega) (Ev.neg (by omega) (Ev.neg (by omega) (Ev.bind hn.prog (Ev.neg he (Ev.some rfl)))))))
      · simp only [whirligigref05_Eval.f]
        rw [rd159 hb, hx]
        refine Ev.pos (by omega) (Ev.pos (by omega) (Ev.neg (show ¬ x.f0 = 0 by omega) (Ev.neg (show ¬ x.f0 = 16 by omega) (Ev.neg (show ¬ x.f0 = 17 by omega) (Ev.bind (a := (0, 0, ⟨#[]⟩, err)) ?_ (Ev.neg he (Ev.some rfl)))))))
        rw [show (ref159 x).f3 = (c : Int) from h3]; exact hn.doc
      · obtain ⟨g, _, _, _⟩ := hkinds kd at_ hk
        subst g
        exact (ht ka aa hk1).2 he
    subst he
    obtain ⟨hv1, hv2⟩ := hn.ok rfl
    have hfin : ∀ {R : R4}, Ev (fun k => whirligigref05_Eval.j2 k (l.map ref159) (cs.map c166) ss (enR x.f0 v) x.f0 x.f1.f0 x.f1.f1 x.f1.f2 x.f2 x.f3 x.f4 v.f0 v.f1 v.f2) R → Ev (fun k => whirligigref05_Eval.f k (l.map ref159) ((b + 1 : Nat) : Int) (cs.map c166) ss) R := fun {R} hR => by
      refine Ev.succ ?_
      simp only [whirligigref05_Eval.f]
      rw [rd159 hb, hx]
      refine Ev.pos (by omega) (Ev.pos (by omega) (Ev.neg (show ¬ x.f0 = 0 by omega) (Ev.neg (show ¬ x.f0 = 16 by omega) (Ev.neg (show ¬ x.f0 = 17 by omega) (Ev.bind (a := (v.f0, v.f1, v.f2, 0)) ?_ (Ev.pos rfl (Ev.pos (show x.f0 > 2 by omega) ?_)))))))
      · rw [show (ref159 x).f3 = (c : Int) from h3]; exact hn.doc
      · have hbit : v.f0 = 2 → v.f2.toList = ([] : List UInt8) ∧ (v.f1 = 0 ∨ v.f1 = 1) := fun h2 => by
          rcases hv1 with g | g | g
          · omega
          · exact ⟨by rw [g.2.2, nil_toList], g.2.1⟩
          · omega
        have e0 : (v.f0 == 2 && (v.f1 == 0 && (v.f2.toList == ([] : List UInt8)))) = (decide (v.f0 = 2) && v.f1 == 0) := by
          by_cases h2 : v.f0 = 2
          · rw [(hbit h2).1]; simp [h2]
          · simp [h2]
        have e1 : (v.f0 == 2 && (v.f1 == 1 && (v.f2.toList == ([] : List UInt8)))) = (decide (v.f0 = 2) && v.f1 != 0) := by
          by_cases h2 : v.f0 = 2
          · rw [(hbit h2).1]
            rcases (hbit h2).2 with g | g <;> simp [h2, g]
          · simp [h2]
        rw [show (ref159 x).f0 = x.f0 from rfl]
        by_cases h14 : x.f0 = 14
        · refine Ev.pos h14 ?_
          have hen : enR x.f0 v = (decide (v.f0 = 2) && v.f1 == 0) := by rw [h14]; unfold enR; simp
          cases g : (decide (v.f0 = 2) && v.f1 == 0) with
          | true =>
            rw [hen, g] at hR
            exact Ev.pos (by rw [e0, g]) hR
          | false =>
            rw [hen, g] at hR
            exact Ev.neg (by rw [e0, g]; decide) (Ev.neg (by omega) hR)
        · refine Ev.neg h14 ?_
          by_cases h15 : x.f0 = 15
          · refine Ev.pos h15 ?_
            have hen : enR x.f0 v = (decide (v.f0 = 2) && v.f1 != 0) := by rw [h15]; unfold enR; simp
            rw [hen] at hR
            dsimp only
            rw [e1]
            exact hR
          · refine Ev.neg h15 ?_
            have hen : enR x.f0 v = false := by unfold enR; simp [h14, h15]
            rw [hen] at hR
            exact hR
    have hpro : ∀ {R : R4}, (enR x.f0 v = true → R = (v.f0, v.f1, v.f2, 0)) → (enR x.f0 v = false → er2 ≠ 0 → R = (0, 0, ⟨#[]⟩, er2)) → (enR x.f0 v = false → er2 = 0 → Ev (fun k => val_Reckon.f k x.f0 v.f0 v.f1 v.f2 [w]) R) → Ev (fun k => eval_machine_node.f k cs ss l ((b + 1 : Nat) : Int)) R := fun {R} h1 h2 h5 => by
      refine Ev.succ ?_
      simp only [eval_machine_node.f, bind4]
      rw [rd156 hb, hx, h3, h4]
      refine Ev.pos (by omega) (Ev.pos (by omega) (Ev.neg (by omega) (Ev.neg (by omega) (Ev.neg (by omega) (Ev.bind hn.prog (Ev.pos rfl (Ev.neg (by omega) (Ev.bind_some (enough_eq x.f0 v) ?_))))))))
      cases g : enR x.f0 v with
      | true => exact Ev.pos rfl (Ev.some (h1 g).symm)
      | false =>
        refine Ev.neg (by decide) (Ev.bind hn2.prog ?_)
        by_cases g2 : er2 = 0
        · exact Ev.pos g2 (h5 g g2)
        · exact Ev.neg g2 (Ev.some (h2 g g2).symm)
    cases g : enR x.f0 v with
    | true =>
      refine ⟨v, 0, ⟨hpro (fun _ => rfl) (fun h => by rw [g] at h; cases h) (fun h => by rw [g] at h; cases h), hfin (Ev.succ ?_), fun _ => ⟨hv1, hv2⟩, fun h => absurd rfl h⟩, fun kd at_ hk => ⟨fun _ => ?_, fun h => absurd rfl h⟩⟩
      · rw [g]
        simp only [whirligigref05_Eval.j2]
        exact Ev.pos trivial (Ev.some rfl)
      · obtain ⟨g1, g2, g3, g4⟩ := hkinds kd at_ hk
        subst g1
        have h5 := (ht ka aa hk1).1 rfl
        have h6 : v.f0 = 2 ∧ 14 ≤ x.f0 := by
          unfold enR at g
          simp only [Bool.and_eq_true, Bool.or_eq_true, decide_eq_true_eq, beq_iff_eq] at g
          exact ⟨g.1, by rcases g.2 with h | h <;> omega⟩
        rw [g4, resK_val ho g3, if_neg (by omega), if_neg (by omega), if_neg (by omega), if_neg (by omega)]
        exact h6.1
    | false =>
      by_cases g2 : er2 = 0
      rotate_left
      · refine ⟨zV, er2, ⟨hpro (fun h => by rw [g] at h; cases h) (fun _ _ => rfl) (fun _ h => absurd h g2), hfin (Ev.succ ?_), fun h => absurd h g2, fun _ => rfl⟩, fun kd at_ hk => ⟨fun h => absurd h g2, fun _ => ?_⟩⟩
        · rw [g]
          simp only [whirligigref05_Eval.j2]
          refine Ev.neg (by decide) (Ev.bind (a := (w.f0, w.f1, w.f2, er2)) (by rw [h4]; exact hn2.doc) (Ev.neg g2 (Ev.some rfl)))
        · obtain ⟨_, g1, _, _⟩ := hkinds kd at_ hk
          subst g1
          exact (ht2 kb ab hj1).2 g2
      subst g2
      obtain ⟨hw1, hw2⟩ := hn2.ok rfl
      have hres := node_reck (l := l) (cs := cs) (ss := ss) (r := reckR x.f0 v w) (op := x.f0) (ka := v.f0) (kb := w.f0) (b := b + 1) ?_ ?_ (fun hr => reck_comes ho hv1 hw1 hv2 hw2 hr)
      · obtain ⟨u, e, h1, h2⟩ := hres
        refine ⟨u, e, h1, fun kd at_ hk => ?_⟩
        obtain ⟨g1, g2, g3, g4⟩ := hkinds kd at_ hk
        subst g1 g2
        have h5 := (ht ka aa hk1).1 rfl
        have h6 := (ht2 kb ab hj1).1 rfl
        rw [h5, h6] at h2
        rw [g4]
        exact h2 g3
      · exact hpro (fun h => by rw [g] at h; cases h) (fun _ h => absurd rfl h) (fun _ _ => vReckon2 hv1 hw1 hv2 hw2 o)
      · refine hfin (Ev.succ ?_)
        rw [g]
        simp only [whirligigref05_Eval.j2]
        refine Ev.neg (by decide) (Ev.bind (a := (w.f0, w.f1, w.f2, 0)) (by rw [h4]; exact hn2.doc) (Ev.pos rfl (Ev.succ ?_)))
        simp only [whirligigref05_Eval.j3, bind4]
        refine Ev.bind (rResult_ev ho v.f0 w.f0) ?_
        by_cases g5 : resK x.f0 v.f0 w.f0 = 0
        · rw [if_pos g5]; exact Ev.pos g5 (Ev.some rfl)
        · rw [if_neg g5]; exact Ev.neg g5 (rReckon hv1 hw1 hv2 hw2 o g5)
end
end Go.Proofs.YtbngfhlciebeeaaDoor.Sp
end
section
namespace Go.Proofs.YtbngfhlciebeeaaDoor.L
open Go.RowKit Go.Proofs.YtbngfhlciebeeaaDoorW.PrintWords Go.Proofs.YtbngfhlciebeeaaDoorW.PrintLast Go.Proofs.YtbngfhlciebeeaaDoorW.PrintMore
attribute [local go_sem] max2_int min2_int max_two min_two max_three min_three max_four min_four   -- for this text's walks alone
set_option linter.unusedVariables false
set_option linter.unusedSimpArgs false
def whirligiglaw05_refs.l0 : Nat → List (S159) → List (S156) → Int → Int → Option ((List (S159)))
 | 0, _, _, _, _ => none
 | k + 1, x3, x6, x7, x8 => if x8 < x7 then (if 0 ≤ x8 then (if x8 < (x6.length : Int) then (if x3.length < 1954687338268 then (whirligiglaw05_refs.l0 k (x3 ++ [(⟨(rd_T156 x6 x8).f0, (⟨(rd_T156 x6 x8).f1.f0, (rd_T156 x6 x8).f1.f1, (rd_T156 x6 x8).f1.f2⟩ : S106), (rd_T156 x6 x8).f2, (rd_T156 x6 x8).f3, (rd_T156 x6 x8).f4⟩ : S159)]) x6 x7 (wrap64 (x8 + 1))) else (none)) else (none)) else (none)) else (some x3)
def whirligiglaw05_refs.f (k : Nat) (l0 : List (S156)) : Option ((List (S159))) := whirligiglaw05_refs.l0 k ([] : List (S159)) l0 (l0.length : Int) 0
set_option maxHeartbeats 8000000 in
set_option maxRecDepth 100000 in
theorem whirligiglaw05_refs.calls (k : Nat) (A0 : Option Addr) (c0 : Nat) (l0 : List (S156)) (r : List (S159)) (w : World) (hr0 : Kd.C k156 w A0 l0.length l0) (hc0 : l0.length ≤ c0) (h : whirligiglaw05_refs.f k l0 = some r) :
  Calls Tryd.prog 63 #[.slice A0 l0.length c0] w fun e w' => ∃ v0_ : Value, e = .returned (v0_) ∧ Kd.R k159 159 w' w.heap.size (fun _ => True) v0_ r ∧ Below w.heap.size w w' := by
 have hu156 := Tryd.underlying156
 have hu103 := Tryd.underlying103
 have hu159 := Tryd.underlying159
 have HR0 := Aside0.mk hr0
 have HC0 := Aside0.mk hc0
 clear hr0 hc0
 have HB := Aside0.mk (Below.refl w.heap.size w)
 have H : (whirligiglaw05_refs.l0 k ([] : List (S159)) l0 (l0.length : Int) 0) = some r := h
 clear h
 have H' := Aside0.mk H
 clear H
 go_enter Tryd.func63, Tryd.ntmps63
 go_wp2
 go_loopg [3, 8] k (fun kq v3 v8 w' => ∃ (x3_1 : List (S159)) (x8_1 : Int), v8 = .int .i64 x8_1 ∧ Aside0 (whirligiglaw05_refs.l0 kq x3_1 l0 (l0.length : Int) x8_1 = some r) ∧ Aside0 (kq ≤ k) ∧ Aside0 (Kd.R k159 159 w' w.heap.size (fun _ => True) v3 x3_1) ∧ Aside0 (Below w.heap.size w w'))
 case atStart => exact ⟨(([] : List (S159))), (0), qE, H', ⟨Nat.le_refl _⟩, ⟨by first | exact Kd.R_nil _ _ _ _ _ | exact Kd.N_nil _ _ _ _ _ | exact Kd.V_nil _ _ _ _ _ | exact Kd.Q_nil _ _ _ _ _ | exact Kd.S_nil _ _ _ _ _⟩, ⟨qB⟩⟩
 case round =>
  clear H'
  obtain ⟨x3_1, x8_1, rfl, HA, HK1, HO_3, HB⟩ := hrel
  cases gk with
  | zero => exact absurd HA.out (by simp [whirligiglaw05_refs.l0])
  | succ k1 =>
   have H := HA.out
   clear HA
   simp only [whirligiglaw05_refs.l0] at H
   replace H := iD H
   rcases H with ⟨c2b0, H⟩ | ⟨c2b0, H⟩
   ·by_cases c3 : 0 ≤ x8_1
    ·rw [if_pos c3] at H; have c3b0 := decide_eq_true c3; clear c3; replace H := iD H
     rcases H with ⟨c4b0, H⟩ | ⟨c4b0, H⟩
     ·by_cases c5 : x3_1.length < 1954687338268
      ·rw [if_pos c5] at H; have LMc5 := Aside0.mk c5; clear c5; obtain ⟨y1293, hy1293⟩ : ∃ y_ : List (S159), y_ = (x3_1 ++ [(⟨(rd_T156 l0 x8_1).f0, (⟨(rd_T156 l0 x8_1).f1.f0, (rd_T156 l0 x8_1).f1.f1, (rd_T156 l0 x8_1).f1.f2⟩ : S106), (rd_T156 l0 x8_1).f2, (rd_T156 l0 x8_1).f3, (rd_T156 l0 x8_1).f4⟩ : S159)]) := ⟨_, rfl⟩; replace H : (whirligiglaw05_refs.l0 k1 y1293 l0 (l0.length : Int) (wrap64 (x8_1 + 1))) = some r := by first | (rw [hy1293]; with_reducible exact H) | (have H2_ := (Option.bind_some _ _).symm.trans H; rw [hy1293]; with_reducible exact H2_) | (have H2_ := (Option.bind_some _ _).symm.trans H; with_reducible exact H2_) | with_reducible exact H | (rw [hy1293]; exact H) | exact H
       have Ny1293 := Aside0.mk hy1293; clear hy1293; have H' := Aside0.mk H; clear H; have p1291 : 0 ≤ (x8_1 : Int) := qD; have q1291 : x8_1 < (l0.length : Int) := qD; obtain ⟨ad1291, e1291, hx1291_0, hx1291_1, hx1291_2, hx1291_3, hx1291_4, hx1291_5, hx1291_6⟩ := at_T156 (Kd.C_below HR0.out HB.out) x8_1 p1291 q1291; cases e1291; replace p1291 := eq_true p1291; replace q1291 := eq_true q1291
       go_wp2_with (first | ((with_reducible refine gd 5 rfl ?_); refine bx 5 #[.int .i64 0, .int .i64 0, .int .i64 0, .string (⟨#[]⟩ : ByteArray), .string (⟨#[]⟩ : ByteArray), .int .i64 0, .int .i64 0] 156 ?_; intro gb1292 hg w6 hbox hb; have BK1292 := Aside0.mk (hbox); have GW1292 := geS hg; have GE1292 := geS hg; replace HO_3 := rb HO_3 hb; replace HB := bst hb; clear hb hbox hg; obtain ⟨_, _, _, _, _, _, _, _, _, _, _, _, _, _⟩ := cells7 BK1292.out) | ((with_reducible refine gate_builtin (b := .append) (xs := #[.tmp 12, .tmp 24]) rfl ?_); at_builtin; refine Kd.R_append k159 (w0 := w) w.heap.size rfl (.tmp 12) (.tmp 24) 91 159 (.agg #[(.int .i64 0), (.int .i64 0), (.int .i64 0), (.string ⟨#[]⟩), (.string ⟨#[]⟩), (.int .i64 0), (.int .i64 0)]) 72 rfl Tryd.underlying91 info159 rfl (by decide) (by omega) u3 x3_1 (⟨(rd_T156 l0 x8_1).f0, (⟨(rd_T156 l0 x8_1).f1.f0, (rd_T156 l0 x8_1).f1.f1, (rd_T156 l0 x8_1).f1.f2⟩ : S106), (rd_T156 l0 x8_1).f2, (rd_T156 l0 x8_1).f3, (rd_T156 l0 x8_1).f4⟩ : S159) [.int .i64 ((rd_T156 l0 x8_1).f0), .int .i64 ((rd_T156 l0 x8_1).f1.f0), .int .i64 ((rd_T156 l0 x8_1).f1.f1), .string ((rd_T156 l0 x8_1).f1.f2), .string ((rd_T156 l0 x8_1).f2), .int .i64 ((rd_T156 l0 x8_1).f3), .int .i64 ((rd_T156 l0 x8_1).f4)] (fun _ => True) (fun _ => False) rfl (by first | (go_simp; done) | (go_simp; rfl)) ?aP (fun _ hk => hk.elim) ?aF ?aO ?aB ?aS ?aL ?_; (case aP => exact k159_mkM _ _ _ (⟨(rd_T156 l0 x8_1).f0, (⟨(rd_T156 l0 x8_1).f1.f0, (rd_T156 l0 x8_1).f1.f1, (rd_T156 l0 x8_1).f1.f2⟩ : S106), (rd_T156 l0 x8_1).f2, (rd_T156 l0 x8_1).f3, (rd_T156 l0 x8_1).f4⟩ : S159)); (case aB => exact qB); (case aF => exact (fun _ _ => trivial)); (case aO => exact (by (with_reducible repeat (first | apply Kd.R_alloc | apply Kd.R_drewN | apply Kd.R_drew)); exact Kd.R_mono (Kd.R_far (p := ⟨gb1292, 6, none⟩) (Kd.R_far (p := ⟨gb1292, 5, none⟩) (Kd.R_far (p := ⟨gb1292, 4, none⟩) (Kd.R_far (p := ⟨gb1292, 3, none⟩) (Kd.R_far (p := ⟨gb1292, 2, none⟩) (Kd.R_far (p := ⟨gb1292, 1, none⟩) (Kd.R_far (p := ⟨gb1292, 0, none⟩) (Kd.R_types HO_3.out BK1292.out (by decide)) (fun _ hk => hk.2) (.int .i64 ((rd_T156 l0 x8_1).f0))) (fun _ hk => hk.2) (.int .i64 ((rd_T156 l0 x8_1).f1.f0))) (fun _ hk => hk.2) (.int .i64 ((rd_T156 l0 x8_1).f1.f1))) (fun _ hk => hk.2) (.string ((rd_T156 l0 x8_1).f1.f2))) (fun _ hk => hk.2) (.string ((rd_T156 l0 x8_1).f2))) (fun _ hk => hk.2) (.int .i64 ((rd_T156 l0 x8_1).f3))) (fun _ hk => hk.2) (.int .i64 ((rd_T156 l0 x8_1).f4))) (fun _ hk => trivial))); (case aS => exact (below_size qB)); (case aL => have := LMc5.out; omega); intro v1294 w8 ho hb hg hat; rw [← Ny1293.out] at ho; have n0_ := Aside0.mk (blk_grown (g := gb1292) (o := .cells #[.int .i64 ((rd_T156 l0 x8_1).f0), .int .i64 ((rd_T156 l0 x8_1).f1.f0), .int .i64 ((rd_T156 l0 x8_1).f1.f1), .string ((rd_T156 l0 x8_1).f1.f2), .string ((rd_T156 l0 x8_1).f2), .int .i64 ((rd_T156 l0 x8_1).f3), .int .i64 ((rd_T156 l0 x8_1).f4)] 156 (0, 0)) qP hg (Kd.R_ne HO_3.out BK1292.out (by decide))); have n1_ := Aside0.mk (hb); have n2_ := Aside0.mk (ho); clear BK1292; clear HB; clear HO_3; have BK1292 := n0_; have HB := n1_; have HO1295 := n2_; clear n0_ n1_ n2_; clear ho hb hg hat))
       go_roundg k1
       case measure => have := HK1.out; omega
       case rel => exact ⟨(y1293), (wrap64 (x8_1 + 1)), qE, H', ⟨by have := HK1.out; omega⟩, ⟨by (with_reducible repeat (first | apply Kd.R_alloc | apply Kd.R_drewN | apply Kd.R_drew)); exact HO1295.out⟩, ⟨qB⟩⟩
      rw [if_neg c5] at H; exact absurd H (by simp)
     exact absurd H (by simp)
    rw [if_neg c3] at H
    exact absurd H (by simp)
   obtain rfl := Option.some.inj H
   go_wp2
   go_ret
   exact ⟨_, qR, by (with_reducible repeat (first | apply Kd.R_alloc | apply Kd.R_drewN | apply Kd.R_drew)); exact HO_3.out, qB⟩
end Go.Proofs.YtbngfhlciebeeaaDoor.L
end
section
namespace Go.Proofs.YtbngfhlciebeeaaDoor.Sp
set_option linter.unusedVariables false
set_option linter.unusedSimpArgs false
open Go.RowKit Go.Proofs.YtbngfhlciebeeaaDoorW.PrintWords Go.Proofs.YtbngfhlciebeeaaDoorW.PrintMore Go.Proofs.YtbngfhlciebeeaaDoor.L
theorem Eval_node {l : List S156} {cs : List S116} {ss : List ByteArray} (g : GoodE l) {r : R4} (h : Ev (fun k => eval_machine_node.f k cs ss l ((l.length - 1 : Nat) : Int)) r) : Ev (fun k => eval_Eval.f k l cs ss) r := by
  have h0 := g.ne
  have h1 := g.le
  unfold eval_Eval.f
  simp only [bind4]
  rw [wrap_at (x := (l.length : Int) - 1) (by omega) (by omega), show (l.length : Int) - 1 = ((l.length - 1 : Nat) : Int) by omega]
  exact Ev.bind (right_good g) (Ev.pos rfl h)
theorem Eval_ev {l : List S156} {cs : List S116} {ss st : List ByteArray} (g : GoodE l) (hcs : cs.length ≤ 1000) (hss : ss.length ≤ 1000) (hst : st.length ≤ 1000) (hv : ∀ x ∈ cs, ValOk x.f1 ∧ Opn.I64 x.f1.f1) :
    ∃ v err, Ev (fun k => eval_Eval.f k l cs ss) (v.f0, v.f1, v.f2, err) ∧ NodeEv l cs ss (l.length - 1) v err ∧ ∀ kd at_, Ev (fun k => whirligigref04_Of.f k (l.map ref159) ((l.length : Int) - 1) ((cs.map k118).map v151) st) (kd, 0, at_) → (err = 0 → v.f0 = kd) ∧ (err ≠ 0 → isErr err) := by
  have h0 := g.ne
  have h1 := g.le
  obtain ⟨v, err, hn, ht⟩ := eval_seg (st := st) (by omega) hcs hss hst g.ok hv g.seg
  refine ⟨v, err, Eval_node g hn.prog, hn, fun kd at_ hk => ht kd at_ ?_⟩
  rw [show (l.length : Int) - 1 = ((l.length - 1 : Nat) : Int) by omega] at hk
  exact hk
theorem refs05_l0 (l : List S156) (hl : l.length ≤ 1000) : ∀ (d j : Nat), j ≤ l.length → l.length - j = d → Ev (fun k => whirligiglaw05_refs.l0 k ((l.take j).map ref159) l (l.length : Int) (j : Int)) (l.map ref159) := by
  intro d
  induction d with
  | zero =>
    intro j hj hd
    refine Ev.succ ?_
    simp only [whirligiglaw05_refs.l0]
    rw [List.take_of_length_le (by omega)]
    exact Ev.neg (by omega) (Ev.some rfl)
  | succ d ih =>
    intro j hj hd
    have hjl : j < l.length := by omega
    have hi := ih (j + 1) (by omega) (by omega)
    rw [List.take_add_one, List.getElem?_eq_getElem hjl, List.map_append] at hi
    refine Ev.succ ?_
    simp only [whirligiglaw05_refs.l0]
    rw [rd156 hjl, up1 (by omega)]
    exact Ev.pos (by omega) (Ev.pos (by omega) (Ev.pos (by omega) (Ev.pos (by rw [List.length_map, List.length_take]; omega) hi)))
theorem refs05_ev (l : List S156) (hl : l.length ≤ 1000) : Ev (fun k => whirligiglaw05_refs.f k l) (l.map ref159) := by
  have := refs05_l0 l hl l.length 0 (by omega) (by omega)
  unfold whirligiglaw05_refs.f
  exact this
theorem cells_both {cs : List S116} (ho : Opn.okCs cs) (h : ∀ x ∈ cs, ValOk x.f1) : ∀ x ∈ cs, ValOk x.f1 ∧ Opn.I64 x.f1.f1 := fun x hx => ⟨h x hx, (ho.2 x hx).2.2.1⟩
end Go.Proofs.YtbngfhlciebeeaaDoor.Sp
end
