/- Printed and hand-written steps towards the row (EvalShort), those that it reaches. -/
import Derived.Test.YtbngfhlciebeeaaDoorEvalShortG24
import Derived.Test.YtbngfhlciebeeaaDoorEvalShortSegQ
import Derived.Test.YtbngfhlciebeeaaDoorEvalShortLxf17
namespace Go.Proofs.YtbngfhlciebeeaaDoor.Sp
set_option linter.unusedVariables false
set_option linter.unusedSimpArgs false
open Go.RowKit Go.Proofs.YtbngfhlciebeeaaDoorW.PrintWords Go.Proofs.YtbngfhlciebeeaaDoorW.PrintMore Go.Proofs.YtbngfhlciebeeaaDoor.L
theorem node_pre {E Y : List S156} {cs : List S116} {ss : List ByteArray} (hp : E <+: Y) {a b : Nat} (s : Seg E a b) : ∀ k, eval_machine_node.f k cs ss E (b : Int) = eval_machine_node.f k cs ss Y (b : Int) := by
  induction s with
  | @leaf b x h o =>
    intro k
    cases k with
    | zero => rfl
    | succ k =>
      have hY := pre_at hp h
      have b1 := (List.getElem?_eq_some_iff.1 h).1
      have b2 := (List.getElem?_eq_some_iff.1 hY).1
      simp only [eval_machine_node.f]
      rw [rd156 b1, rd156 b2, (List.getElem?_eq_some_iff.1 h).2, (List.getElem?_eq_some_iff.1 hY).2]
      simp only [if_pos (show (0 : Int) ≤ (b : Int) by omega), if_pos (show (b : Int) < (E.length : Int) by omega), if_pos (show (b : Int) < (Y.length : Int) by omega)]
      rcases o with o | o | o
      · simp only [if_pos o]
      · simp only [if_neg (show ¬ x.f0 = 0 by omega), if_pos o]
      · simp only [if_neg (show ¬ x.f0 = 0 by omega), if_neg (show ¬ x.f0 = 16 by omega), if_pos o]
  | @one a b x h o h3 s ih =>
    intro k
    cases k with
    | zero => rfl
    | succ k =>
      have hY := pre_at hp h
      have b1 := (List.getElem?_eq_some_iff.1 h).1
      have b2 := (List.getElem?_eq_some_iff.1 hY).1
      have o2 : x.f0 ≤ 2 := by omega
      simp only [eval_machine_node.f]
      rw [rd156 b1, rd156 b2, (List.getElem?_eq_some_iff.1 h).2, (List.getElem?_eq_some_iff.1 hY).2, h3, ih k]
      simp only [if_pos o2, if_pos (show (0 : Int) ≤ ((b + 1 : Nat) : Int) by omega), if_pos (show ((b + 1 : Nat) : Int) < (E.length : Int) by omega), if_pos (show ((b + 1 : Nat) : Int) < (Y.length : Int) by omega)]
  | @two a b c x h o h3 h4 s t i1 i2 =>
    intro k
    cases k with
    | zero => rfl
    | succ k =>
      have hY := pre_at hp h
      have b1 := (List.getElem?_eq_some_iff.1 h).1
      have b2 := (List.getElem?_eq_some_iff.1 hY).1
      simp only [eval_machine_node.f]
      rw [rd156 b1, rd156 b2, (List.getElem?_eq_some_iff.1 h).2, (List.getElem?_eq_some_iff.1 hY).2, h3, h4, i1 k, i2 k]
      simp only [if_pos (show (0 : Int) ≤ ((b + 1 : Nat) : Int) by omega), if_pos (show ((b + 1 : Nat) : Int) < (E.length : Int) by omega), if_pos (show ((b + 1 : Nat) : Int) < (Y.length : Int) by omega)]
theorem andor_ev {Y : List S156} {cs : List S116} {ss : List ByteArray} {n c : Nat} {op : Int} (hY : Y[n + 1]? = some (nodeO op (c : Int) (n : Int))) (ho : op = 14 ∨ op = 15) {v : S103} {err : Int} (hv : Ev (fun k => eval_machine_node.f k cs ss Y (c : Int)) (v.f0, v.f1, v.f2, err))
    (hok : err = 0 → ValOk v ∧ Opn.I64 v.f1) {w : S103} {er2 : Int} (hw : NodeEv Y cs ss n w er2) :
    (err ≠ 0 → Ev (fun k => eval_machine_node.f k cs ss Y ((n + 1 : Nat) : Int)) (0, 0, ⟨#[]⟩, err)) ∧
    (err = 0 → enR op v = true → Ev (fun k => eval_machine_node.f k cs ss Y ((n + 1 : Nat) : Int)) (v.f0, v.f1, v.f2, 0)) ∧
    (err = 0 → v.f0 ≠ 2 → ∃ e, e ≠ 0 ∧ Ev (fun k => eval_machine_node.f k cs ss Y ((n + 1 : Nat) : Int)) (0, 0, ⟨#[]⟩, e)) := by
  have b2 := (List.getElem?_eq_some_iff.1 hY).1
  have hx := (List.getElem?_eq_some_iff.1 hY).2
  have start : ∀ {R : R4}, (err ≠ 0 → R = (0, 0, ⟨#[]⟩, err)) → (err = 0 → enR op v = true → R = (v.f0, v.f1, v.f2, 0)) → (err = 0 → enR op v = false → er2 ≠ 0 → R = (0, 0, ⟨#[]⟩, er2)) → (err = 0 → enR op v = false → er2 = 0 → Ev (fun k => val_Reckon.f k op v.f0 v.f1 v.f2 [w]) R) → Ev (fun k => eval_machine_node.f k cs ss Y ((n + 1 : Nat) : Int)) R := fun {R} h1 h2 h3 h4 => by
    refine Ev.succ ?_
    simp only [eval_machine_node.f, bind4]
    rw [rd156 b2, hx]
    refine Ev.pos (by omega) (Ev.pos (by omega) (Ev.neg (show ¬ op = 0 by omega) (Ev.neg (show ¬ op = 16 by omega) (Ev.neg (show ¬ op = 17 by omega) (Ev.bind hv ?_)))))
    by_cases he : err = 0
    · refine Ev.pos he (Ev.neg (show ¬ op ≤ 2 by omega) (Ev.bind_some (enough_eq op v) ?_))
      cases g : enR op v with
      | true => exact Ev.pos rfl (Ev.some (h2 he g).symm)
      | false =>
        refine Ev.neg (by decide) (Ev.bind hw.prog ?_)
        by_cases g2 : er2 = 0
        · exact Ev.pos g2 (h4 he g g2)
        · exact Ev.neg g2 (Ev.some (h3 he g g2).symm)
    · exact Ev.neg he (Ev.some (h1 he).symm)
  refine ⟨fun he => start (fun _ => rfl) (fun h => absurd h he) (fun h => absurd h he) (fun h => absurd h he), fun he hen => start (fun h => absurd he h) (fun _ _ => rfl) (fun _ h => by rw [hen] at h; cases h) (fun _ h => by rw [hen] at h; cases h), fun he h2 => ?_⟩
  have hen : enR op v = false := by unfold enR; rw [decide_eq_false h2]; rfl
  by_cases g2 : er2 = 0
  · refine ⟨20, by decide, start (fun h => absurd he h) (fun _ h => by rw [hen] at h; cases h) (fun _ _ h => absurd g2 h) (fun _ _ _ => ?_)⟩
    have hr : resK op v.f0 w.f0 = 0 := by
      by_cases g : resK op v.f0 w.f0 = 0
      · exact g
      · exact absurd ((resK_kinds g (by omega)).2.2.2.2 (by omega)) h2
    have := vReckon2 (hok he).1 (hw.ok g2).1 (hok he).2 (hw.ok g2).2 (show 3 ≤ op ∧ op ≤ 15 by omega)
    rw [if_pos hr] at this
    exact this
  · exact ⟨er2, g2, start (fun h => absurd he h) (fun _ h => by rw [hen] at h; cases h) (fun _ _ _ => rfl) (fun _ _ h => absurd h g2)⟩
theorem two_ev {S T J : ByteArray} {E F y : List S156} (hE : Ev (fun k => pa k (toksOf S) 0 0 []) (some ((toksOf S).length, E))) (hF : Ev (fun k => pa k (toksOf T) 0 0 []) (some ((toksOf T).length, F))) (gE : GoodE E) (hS : (lex S.data.toList).2.1 = 0) (hT : (lex T.data.toList).2.1 = 0)
    {W : List UInt8} {m : Nat} {op : Int} (hm2 : m = 0 ∧ op = 15 ∨ m = 1 ∧ op = 14) (hop : opIn (levAt m).signs (levAt m).ops ⟨1, ⟨W.toArray⟩, 0, 0⟩ = some op) (hno : ∀ j, m + 1 ≤ j → j ≤ 4 → opIn (levAt j).signs (levAt j).ops ⟨1, ⟨W.toArray⟩, 0, 0⟩ = none)
    (hw0 : 0 < W.length) (hw : W.all innerB = true) (hs : smallB (W.getD 0 0) = true) (hwl : W.length ≤ 16)
    (hJ : J.data.toList = 40 :: (S.data.toList ++ 41 :: (32 :: (W ++ 32 :: 40 :: (T.data.toList ++ [41])))))
    (hy : Ev (fun k => pa k (toksOf J) 0 0 []) (some ((toksOf J).length, y))) (hlex : (lex J.data.toList).2.1 = 0) (gy : GoodE y) {cs : List S116} {ss : List ByteArray} (hcs : cs.length ≤ 100) (hss : ss.length ≤ 100) (hv : ∀ x ∈ cs, ValOk x.f1 ∧ Opn.I64 x.f1.f1)
    {v : S103} {err : Int} (hn : NodeEv E cs ss (E.length - 1) v err) :
    (err ≠ 0 → Ev (fun k => eval_Eval.f k y cs ss) (0, 0, ⟨#[]⟩, err)) ∧ (err = 0 → enR op v = true → Ev (fun k => eval_Eval.f k y cs ss) (v.f0, v.f1, v.f2, 0)) ∧ (err = 0 → v.f0 ≠ 2 → ∃ e, e ≠ 0 ∧ Ev (fun k => eval_Eval.f k y cs ss) (0, 0, ⟨#[]⟩, e)) := by
  have hf := lex_two (S := S.data.toList) (T := T.data.toList) hS hT hw0 hw hs hwl
  rw [← hJ] at hf
  rcases hf with hf | ⟨new, new2, o, c, w, o2, c2, ha, ha2, hts⟩
  · exact absurd hlex hf
  have htw : toksOf J = (twoT W new new2 o c w o2 c2).map Tk.s32 := by unfold toksOf; rw [hts]; rfl
  obtain ⟨E3, h1, h2⟩ := two_nodes hE hF (o := o) (c := c) (w := w) (o2 := o2) (c2 := c2) ha ha2 (W := W) (m := m) (op := op) (by omega) hop hno
  rw [← htw] at h1 h2
  have hyy := h2.uniq hy
  simp only [Option.some.injEq, Prod.mk.injEq, true_and] at hyy
  -- the second part's own nodes
  obtain ⟨K, hK⟩ := h1
  have hE0 := gE.ne
  obtain ⟨gr, hseg, _⟩ := pa_seg (toksOf J) (lex_nextT J.data.toList) K (m + 1) _ E _ E3 (hK K (Nat.le_refl _)) (fun _ => hE0)
  obtain ⟨hlt, hseg⟩ := hseg (by omega)
  have hy0 := gy.ne
  have hyl := gy.le
  have hlen : y.length = E3.length + 1 := by rw [← hyy]; simp
  have hYn : y[E3.length - 1 + 1]? = some (nodeO op ((E.length - 1 : Nat) : Int) ((E3.length - 1 : Nat) : Int)) := by
    rw [← hyy, show E3.length - 1 + 1 = E3.length by omega, last_at, show ((E.length : Int) - 1) = ((E.length - 1 : Nat) : Int) by omega, show ((E3.length : Int) - 1) = ((E3.length - 1 : Nat) : Int) by omega]
  have hpE : E <+: y := by rw [← hyy]; exact gr.1.trans (List.prefix_append _ _)
  have hp3 : E3 <+: y := by rw [← hyy]; exact List.prefix_append _ _
  have hvY : Ev (fun k => eval_machine_node.f k cs ss y ((E.length - 1 : Nat) : Int)) (v.f0, v.f1, v.f2, err) := hn.prog.congr (fun k => (node_pre hpE gE.seg k).symm)
  obtain ⟨u, er2, hu, _⟩ := eval_seg (ss := ss) (st := []) (by omega) (by omega) (by omega) (by simp) gy.ok hv (hseg.pre hp3)
  have key := andor_ev (ss := ss) hYn (by omega) hvY hn.ok hu
  rw [show E3.length - 1 + 1 = y.length - 1 by omega] at key
  exact ⟨fun h => Eval_node gy (key.1 h), fun h h' => Eval_node gy (key.2.1 h h'), fun h h' => by obtain ⟨e, h3, h4⟩ := key.2.2 h h'; exact ⟨e, h3, Eval_node gy h4⟩⟩
theorem one_same {S J : ByteArray} {E x : List S156} (hE : Ev (fun k => pa k (toksOf S) 0 0 []) (some ((toksOf S).length, E))) (hS : (lex S.data.toList).2.1 = 0) (hJ : J.data.toList = 40 :: (S.data.toList ++ [41]))
    (hx : Ev (fun k => pa k (toksOf J) 0 0 []) (some ((toksOf J).length, x))) (hlex : (lex J.data.toList).2.1 = 0) : x = E := by
  have hf := lex_one (S := S.data.toList) hS
  rw [← hJ] at hf
  rcases hf with hf | ⟨new, o, c, ha, hts⟩
  · exact absurd hlex hf
  have htw : toksOf J = (oneT new o c).map Tk.s32 := by unfold toksOf; rw [hts]; rfl
  have h1 := one_nodes hE (o := o) (c := c) ha
  rw [← htw] at h1
  have h2 := hx.uniq h1
  simp only [Option.some.injEq, Prod.mk.injEq, true_and] at h2
  exact h2
theorem Eval_any {l : List S156} {cs : List S116} {ss : List ByteArray} (g : GoodE l) (hcs : cs.length ≤ 100) (hss : ss.length ≤ 100) (hv : ∀ x ∈ cs, ValOk x.f1 ∧ Opn.I64 x.f1.f1) : ∃ r, Ev (fun k => eval_Eval.f k l cs ss) r := by
  obtain ⟨v, err, h, _⟩ := Eval_ev (ss := ss) (st := []) g (by omega) (by omega) (by simp) hv
  exact ⟨_, h⟩
theorem short_j1 {x y z : List S156} {cs : List S116} {ss : List ByteArray} {v : S103} {err : Int} (hX : Ev (fun k => eval_Eval.f k x cs ss) (v.f0, v.f1, v.f2, err)) (hok : err = 0 → ValOk v) {ry rz : R4} (hY : Ev (fun k => eval_Eval.f k y cs ss) ry) (hZ : Ev (fun k => eval_Eval.f k z cs ss) rz)
    (h1 : err ≠ 0 → ry.2.2.2 = err ∧ rz.2.2.2 = err) (h2 : err = 0 → enR 14 v = true → ry = (v.f0, v.f1, v.f2, 0)) (h3 : err = 0 → enR 15 v = true → rz = (v.f0, v.f1, v.f2, 0)) (h4 : err = 0 → v.f0 ≠ 2 → ry.2.2.2 ≠ 0 ∧ rz.2.2.2 ≠ 0) :
    Ev (fun k => whirligiglaw05_EvalShort.j1 k x y z false cs ss) true := by
  refine Ev.succ ?_
  simp only [whirligiglaw05_EvalShort.j1]
  refine Ev.neg (by decide) (Ev.bind hX (Ev.bind hY (Ev.bind hZ ?_)))
  by_cases he : err = 0
  rotate_left
  · obtain ⟨e1, e2⟩ := h1 he
    exact Ev.neg he (Ev.pos e1 (Ev.some (beq_iff_eq.2 e2)))
  · have hv := hok he
    refine Ev.pos he (Ev.bind_some (a := ((2 : Int), (0 : Int), (⟨#[]⟩ : ByteArray))) rfl ?_)
    by_cases h2k : v.f0 = 2
    · have hb : v.f2 = ⟨#[]⟩ ∧ (v.f1 = 0 ∨ v.f1 = 1) := by
        rcases hv with g | g | g
        · omega
        · exact ⟨g.2.2, g.2.1⟩
        · omega
      rcases hb with ⟨hb1, hb2 | hb2⟩
      · have hy := h2 he (by unfold enR; rw [h2k, hb2]; rfl)
        refine Ev.pos (by dsimp only; rw [h2k, hb1, hb2]; simp) ?_
        rw [hy]
        exact Ev.pos rfl (Ev.some (by simp))
      · have hz := h3 he (by unfold enR; rw [h2k, hb2]; rfl)
        refine Ev.neg (by dsimp only; rw [h2k, hb1, hb2]; simp) (Ev.bind_some (a := ((2 : Int), (1 : Int), (⟨#[]⟩ : ByteArray))) rfl (Ev.pos (by dsimp only; rw [h2k, hb1, hb2]; simp) ?_))
        rw [hz]
        exact Ev.pos rfl (Ev.some (by simp))
    · obtain ⟨e1, e2⟩ := h4 he h2k
      refine Ev.neg (by dsimp only; rw [beq_eq_false_iff_ne.2 h2k]; simp) (Ev.bind_some (a := ((2 : Int), (1 : Int), (⟨#[]⟩ : ByteArray))) rfl (Ev.neg (by dsimp only; rw [beq_eq_false_iff_ne.2 h2k]; simp) (Ev.neg e1 (Ev.some (bne_iff_ne.2 e2)))))
theorem EvalShort_ev (s : ByteArray) (hs : s.size ≤ 140737488351232) (t : ByteArray) (ht : t.size ≤ 140737488351232) (cs : List S116) (ss : List ByteArray) (hv : Opn.okCs cs ∧ Opn.okSs ss) : Ev (fun k => whirligiglaw05_EvalShort.f k s t cs ss) true := by
  unfold whirligiglaw05_EvalShort.f
  refine Ev.bind anchor05_ev (Ev.pos rfl ?_)
  obtain ⟨⟨out, b⟩, hr, hb⟩ := cells05_is cs ss hv.1.1
  refine Ev.bind hr ?_
  have hT : Ev (fun k => whirligiglaw05_EvalShort.j0 k s t true cs ss) true := Ev.succ (by simp only [whirligiglaw05_EvalShort.j0]; exact Ev.pos trivial (Ev.some rfl))
  have hT1 : ∀ x y z, Ev (fun k => whirligiglaw05_EvalShort.j1 k x y z true cs ss) true := fun x y z => Ev.succ (by simp only [whirligiglaw05_EvalShort.j1]; exact Ev.pos trivial (Ev.some rfl))
  cases b with
  | false => exact Ev.neg (by simp) hT
  | true =>
    obtain ⟨_, h2, h3, h4⟩ := hb rfl
    refine Ev.pos rfl ?_
    by_cases g : (s.size : Int) > 150
    · exact Ev.pos g hT
    refine Ev.neg g ?_
    by_cases g2 : (t.size : Int) > 150
    · rw [decide_eq_true g2]; exact hT
    rw [decide_eq_false g2]
    refine Ev.succ ?_
    simp only [whirligiglaw05_EvalShort.j0]
    refine Ev.neg (by decide) ?_
    obtain ⟨⟨E, e1⟩, hR1, hG1⟩ := Read_ev' s hs
    refine Ev.bind hR1 ?_
    by_cases he1 : e1 = 0
    rotate_left
    · exact Ev.neg he1 (Ev.some rfl)
    obtain ⟨gE, lS, pE⟩ := hG1 he1
    refine Ev.pos he1 ?_
    obtain ⟨⟨F, e2⟩, hR2, hG2⟩ := Read_ev' t ht
    refine Ev.bind hR2 ?_
    by_cases he2 : e2 = 0
    rotate_left
    · exact Ev.neg he2 (Ev.some rfl)
    obtain ⟨gF, lT, pF⟩ := hG2 he2
    refine Ev.pos he2 (Ev.pos (by omega) (Ev.pos (by omega) ?_))
    generalize hJ1 : ((⟨#[40]⟩ : ByteArray) ++ s) ++ (⟨#[41]⟩ : ByteArray) = J1
    generalize hJ2 : ((((⟨#[40]⟩ : ByteArray) ++ s) ++ (⟨#[41, 32, 97, 110, 100, 32, 40]⟩ : ByteArray)) ++ t) ++ (⟨#[41]⟩ : ByteArray) = J2
    generalize hJ3 : ((((⟨#[40]⟩ : ByteArray) ++ s) ++ (⟨#[41, 32, 111, 114, 32, 40]⟩ : ByteArray)) ++ t) ++ (⟨#[41]⟩ : ByteArray) = J3
    have d1 : J1.data.toList = 40 :: (s.data.toList ++ [41]) := by rw [← hJ1]; simp [ByteArray.data_append]
    have d2 : J2.data.toList = 40 :: (s.data.toList ++ 41 :: (32 :: ([97, 110, 100] ++ 32 :: 40 :: (t.data.toList ++ [41])))) := by rw [← hJ2]; simp [ByteArray.data_append]
    have d3 : J3.data.toList = 40 :: (s.data.toList ++ 41 :: (32 :: ([111, 114] ++ 32 :: 40 :: (t.data.toList ++ [41])))) := by rw [← hJ3]; simp [ByteArray.data_append]
    have ls := len_size s
    have lt := len_size t
    have z1 : J1.size ≤ 1000 := by rw [← len_size, d1]; simp; omega
    have z2 : J2.size ≤ 1000 := by rw [← len_size, d2]; simp; omega
    have z3 : J3.size ≤ 1000 := by rw [← len_size, d3]; simp; omega
    obtain ⟨⟨x, f1⟩, hX, hGx⟩ := Read_ev' J1 (by omega)
    obtain ⟨⟨y, f2⟩, hY, hGy⟩ := Read_ev' J2 (by omega)
    obtain ⟨⟨z, f3⟩, hZ, hGz⟩ := Read_ev' J3 (by omega)
    refine Ev.bind hX (Ev.pos (by omega) (Ev.pos (by omega) (Ev.pos (by omega) (Ev.bind hY (Ev.pos (by omega) (Ev.pos (by omega) (Ev.pos (by omega) (Ev.bind hZ ?_))))))))
    by_cases hf1 : f1 = 0
    rotate_left
    · exact Ev.neg hf1 (hT1 _ _ _)
    refine Ev.pos hf1 ?_
    by_cases hf2 : f2 = 0
    rotate_left
    · exact Ev.neg hf2 (hT1 _ _ _)
    refine Ev.pos hf2 ?_
    by_cases hf3 : f3 = 0
    rotate_left
    · dsimp only; rw [bne_iff_ne.2 hf3]; exact hT1 _ _ _
    dsimp only
    rw [bne_eq_false_iff_eq.2 hf3]
    obtain ⟨gx, lx, px⟩ := hGx hf1
    obtain ⟨gy, ly, py⟩ := hGy hf2
    obtain ⟨gz, lz, pz⟩ := hGz hf3
    have hxE : x = E := one_same pE lS d1 px lx
    subst hxE
    have hcv := cells_both hv.1 h4
    obtain ⟨v, err, hE, hn, _⟩ := Eval_ev (ss := ss) (st := []) gx (by omega) (by omega) (by simp) hcv
    have Y := two_ev (W := [97, 110, 100]) (m := 1) (op := 14) pE pF gx lS lT (Or.inr ⟨rfl, rfl⟩) opIn_and and_none (by decide) (by decide) (by decide) (by decide) d2 py ly gy h2 h3 hcv hn
    have Z := two_ev (W := [111, 114]) (m := 0) (op := 15) pE pF gx lS lT (Or.inl ⟨rfl, rfl⟩) opIn_or or_none (by decide) (by decide) (by decide) (by decide) d3 pz lz gz h2 h3 hcv hn
    obtain ⟨ry, hry⟩ := Eval_any gy h2 h3 hcv
    obtain ⟨rz, hrz⟩ := Eval_any gz h2 h3 hcv
    refine short_j1 hE (fun h => (hn.ok h).1) hry hrz (fun h => ⟨?_, ?_⟩) (fun h h' => ?_) (fun h h' => ?_) (fun h h' => ⟨?_, ?_⟩)
    · rw [hry.uniq (Y.1 h)]
    · rw [hrz.uniq (Z.1 h)]
    · exact hry.uniq (Y.2.1 h h')
    · exact hrz.uniq (Z.2.1 h h')
    · obtain ⟨e, k1, k2⟩ := Y.2.2 h h'
      rw [hry.uniq k2]; exact k1
    · obtain ⟨e, k1, k2⟩ := Z.2.2 h h'
      rw [hrz.uniq k2]; exact k1
end Go.Proofs.YtbngfhlciebeeaaDoor.Sp
