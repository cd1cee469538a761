/- Printed and hand-written steps towards the row (EvalShort), those that it reaches. -/
import Derived.Test.YtbngfhlciebeeaaDoorProg
import Derived.Tactics
import Derived.WalkKit
import Derived.KernelRfl
import Derived.Laws.BitsLemmas
import Derived.OrdersHeld
import Derived.Test.YtbngfhlciebeeaaDoorEvalShortWWords
import Derived.Test.YtbngfhlciebeeaaDoorEvalShortWLast
import Derived.Test.YtbngfhlciebeeaaDoorEvalShortG3
section
namespace Go.Proofs.YtbngfhlciebeeaaDoor.L
set_option linter.unusedVariables false
open Go.RowKit Go.Proofs.YtbngfhlciebeeaaDoorW.PrintWords Go.Proofs.YtbngfhlciebeeaaDoorW.PrintLast Go.Proofs.YtbngfhlciebeeaaDoorW.PrintMore
section
variable {P : Program} {ops : Array Oper} {Q : Exit → Act → World → Prop} {md : Region.Mode} {S : World → Prop} {ds : List Nat} {oi : Oper} {v : Value} {fuel : Nat} {l l' : Array Bool} {a a' : Act} {w : World}
theorem pu (i N : Nat) (h : wpAnyLast P md ops Q S ds fuel l' a' w) (hi : ops[i]? = some oi := by exact rfl) (hN : oi.dst = some N := by exact rfl)
    (hl : l.setIfInBounds i true = l' := by simp only [List.setIfInBounds_toArray, List.set_cons_zero, List.set_cons_succ]; rfl) (hc : anyB md ops l l' i = true := by exact any_of HT_.out (by kernel_rfl))
    (hQ : ∀ c a w, Q (.panic c) (a.put oi.dst v) w → Q (.panic c) a w := by exact fun _ _ _ h => h)
    (hy : Yields P ops oi v a := by first | exact Or.inl ⟨by rfl, by intro w'; go_simp; with_reducible rfl⟩ | exact Or.inr ⟨by rfl, rfl⟩)
    (ha : a.put (some N) v = a' := by simp only [Act.put, List.setIfInBounds_toArray, List.set_cons_zero, List.set_cons_succ, i64_w, i32_w]; rfl) : wpAnyLast P md ops Q S ds (fuel + 1) l a w :=
  pure_ l' hi hN hc hQ hy ha h
theorem po (i N : Nat) (h : wpAnyLast P md ops Q S ds fuel l' a' w) (hi : ops[i]? = some oi := by exact rfl) (hN : oi.dst = some N := by exact rfl)
    (hl : l.setIfInBounds i true = l' := by simp only [List.setIfInBounds_toArray, List.set_cons_zero, List.set_cons_succ]; rfl) (hc : anyB md ops l l' i = true := by exact any_of HT_.out (by kernel_rfl))
    (hQ : ∀ c a w, Q (.panic c) (a.put oi.dst undef) w → Q (.panic c) a w := by exact fun _ _ _ h => h)
    (hy : Yields P ops oi undef a := by exact Or.inr ⟨by rfl, rfl⟩)
    (ha : a.put (some N) undef = a' := by simp only [Act.put, List.setIfInBounds_toArray, List.set_cons_zero, List.set_cons_succ, i64_w, i32_w]; rfl) : wpAnyLast P md ops Q S ds (fuel + 1) l a w :=
  pure_ l' hi hN hc hQ hy ha h
theorem tk (i N : Nat) (h : wpAnyLast P md ops Q S ds fuel l' a' w) (hi : ops[i]? = some oi := by exact rfl) (hN : oi.dst = some N := by exact rfl)
    (hl : l.setIfInBounds i true = l' := by simp only [List.setIfInBounds_toArray, List.set_cons_zero, List.set_cons_succ]; rfl) (hc : takeB md ops ds l l' i = true := by exact take_ofW HT_.out HW_.out (by kernel_rfl))
    (hQ : ∀ c a w, Q (.panic c) (a.put oi.dst v) w → Q (.panic c) a w := by exact fun _ _ _ h => h)
    (hy : YieldsIf P ops S oi v a := by exact Or.inl ⟨by rfl, by intro w' hS_; (repeat (rcases hS_ with ⟨h_, hS_⟩)); go_simp; with_reducible rfl⟩) (hS : S w := by exact hHeld)
    (ha : a.put (some N) v = a' := by simp only [Act.put, List.setIfInBounds_toArray, List.set_cons_zero, List.set_cons_succ, i64_w, i32_w]; rfl) : wpAnyLast P md ops Q S ds (fuel + 1) l a w :=
  take_ l' hi hN hc hQ hy hS ha h
theorem onx (i N : Nat) (h : ∀ K : Act → World → Prop, Shut (∀ a' w', S w' → (S w' → wpAnyLast P md ops Q S ds fuel l' a' w') → K a' w') → if Region.wanted oi (yielded ops a.tmps) = true then Oper.wp P oi a w K Q else K (a.put (some N) undef) w)
    (hi : ops[i]? = some oi := by exact rfl) (hN : oi.dst = some N := by exact rfl)
    (hl : l.setIfInBounds i true = l' := by simp only [List.setIfInBounds_toArray, List.set_cons_zero, List.set_cons_succ]; rfl) (hc : readyB md ops l l' i = true := by exact one_of HT_.out (by kernel_rfl)) (hd : i ∉ ds := by decide) :
    wpAnyLast P md ops Q S ds (fuel + 1) l a w := one_ l' hi hN hc hd h
theorem nm (N : Nat) (h : wpAnyLast P md ops Q S ds fuel l a' w) (ha : Act.put a (some N) v = a' := by simp only [Act.put, List.setIfInBounds_toArray, List.set_cons_zero, List.set_cons_succ, i64_w, i32_w]; rfl) : wpAnyLast P md ops Q S ds fuel l (Act.put a (some N) v) w := norm_ ha h
end
section
theorem blk_pu {w : World} {g : Nat} {t : TypeId} {cs cs' : Array Value} {i : Nat} {u : Value} (h : w.heap[g]? = some (.cells cs t (0, 0))) (e : cs.setIfInBounds i u = cs') : (w.setCell ⟨g, i, none⟩ u).heap[g]? = some (.cells cs' t (0, 0)) := blk_put h i u e
theorem qB {p : Prop} (h : p := by repeat (first | (with_reducible first | exact HB.out | apply below_alloc | apply pw_below_drewN | apply below_drew1 | refine below_set ?_ (Aside0.out (by assumption)) | refine below_set ?_ (IsS122.ge HI0.out)) | exact HB.out)) : p := h
theorem qK {p : Prop} (h : p := by (repeat (with_reducible first | exact Aside0.out (by assumption) | apply blk_drewN | apply blk_drew | apply blk_alloc | apply blk_pu | apply blk_far)); all_goals (first | rfl | exact Aside0.out (by assumption))) : p := h
theorem qD {p : Prop} [Decidable p] (h : decide p = true := by first | (with_reducible assumption) | assumption) : p := of_decide_eq_true h
theorem qR {p : Prop} (h : p := by first | rfl | (simp [errW_none, errW_some] <;> rfl) | (simp [*, errW_none, errW_some] <;> rfl)) : p := h
theorem qI {p : Prop} (h : p := by repeat (first | (with_reducible first | exact HI0.out | apply IsS122.alloc | apply IsS122.drewN | apply IsS122.drew | apply IsS122.set_0 | apply IsS122.set_1 | refine IsS122.far ?_ (Aside0.out (by assumption)) _) | exact HI0.out)) : p := h
theorem qH {p : Prop} (h : p := by repeat (first | (with_reducible first | exact HK.out | apply KeepBut.set_ | apply keep_drewN | apply keep_drew | apply keep_alloc | refine keep_far ?_ (Aside0.out (by assumption)) _) | exact HK.out)) : p := h
theorem qP {p : Prop} (h : p := by (repeat (with_reducible first | exact Aside0.out (by assumption) | apply blk_drewN | apply blk_drew | apply blk_alloc | apply blk_pu | apply blk_far)); all_goals (first | rfl | exact Aside0.out (by assumption))) : p := h
theorem geS {w W : World} {g : Nat} (hg : g = W.heap.size) (h : Below w.heap.size w W := by repeat (first | (with_reducible first | exact HB.out | apply below_alloc | apply pw_below_drewN | apply below_drew1 | refine below_set ?_ (Aside0.out (by assumption)) | refine below_set ?_ (IsS122.ge HI0.out)) | exact HB.out)) : Aside0 (w.heap.size ≤ g) := ⟨by rw [hg]; exact below_size h⟩
theorem gkS {w W : World} {g a : Nat} (hg : g = W.heap.size) (h : KeepBut w W a none := by repeat (first | (with_reducible first | exact HK.out | apply KeepBut.set_ | apply keep_drewN | apply keep_drew | apply keep_alloc | refine keep_far ?_ (Aside0.out (by assumption)) _) | exact HK.out)) : Aside0 (w.heap.size ≤ g) := ⟨by rw [hg]; exact keep_size h⟩
theorem neS (a : Nat) {W : World} {g : Nat} {o : Obj} (hg : g = W.heap.size) (h : W.heap[a]? = some o := by (repeat (with_reducible first | exact Aside0.out (by assumption) | apply blk_drewN | apply blk_drew | apply blk_alloc | apply blk_pu | apply blk_far)); all_goals (first | rfl | exact Aside0.out (by assumption))) : Aside0 (a ≠ g) := ⟨by rw [hg]; exact Nat.ne_of_lt (blk_lt h)⟩
theorem neT (a : Nat) {W : World} {g : Nat} {o : Obj} (hg : g = W.heap.size) (h : W.heap[a]? = some o := by (repeat (with_reducible first | exact Aside0.out (by assumption) | apply blk_drewN | apply blk_drew | apply blk_alloc | apply blk_pu | apply blk_far)); all_goals (first | rfl | exact Aside0.out (by assumption))) : Aside0 (g ≠ a) := ⟨by rw [hg]; exact Nat.ne_of_gt (blk_lt h)⟩
theorem niS {w0 W : World} {g a : Nat} {s : ByteArray} {i : Int} (hg : g = W.heap.size) (h : IsS122 w0 W a s i := by repeat (first | (with_reducible first | exact HI0.out | apply IsS122.alloc | apply IsS122.drewN | apply IsS122.drew | apply IsS122.set_0 | apply IsS122.set_1 | refine IsS122.far ?_ (Aside0.out (by assumption)) _) | exact HI0.out)) : Aside0 (a ≠ g) := ⟨by rw [hg]; exact Nat.ne_of_lt (IsS122.lt h)⟩
theorem niT {w0 W : World} {g a : Nat} {s : ByteArray} {i : Int} (hg : g = W.heap.size) (h : IsS122 w0 W a s i := by repeat (first | (with_reducible first | exact HI0.out | apply IsS122.alloc | apply IsS122.drewN | apply IsS122.drew | apply IsS122.set_0 | apply IsS122.set_1 | refine IsS122.far ?_ (Aside0.out (by assumption)) _) | exact HI0.out)) : Aside0 (g ≠ a) := ⟨by rw [hg]; exact Nat.ne_of_gt (IsS122.lt h)⟩
theorem bst {w W w2 : World} (hb : Below W.heap.size W w2) (h : Below w.heap.size w W := by repeat (first | (with_reducible first | exact HB.out | apply below_alloc | apply pw_below_drewN | apply below_drew1 | refine below_set ?_ (Aside0.out (by assumption)) | refine below_set ?_ (IsS122.ge HI0.out)) | exact HB.out)) : Aside0 (Below w.heap.size w w2) := ⟨below_step h hb⟩
theorem kb (g : Nat) {W w2 : World} {o : Obj} (hb : Below W.heap.size W w2) (h : W.heap[g]? = some o := by (repeat (with_reducible first | exact Aside0.out (by assumption) | apply blk_drewN | apply blk_drew | apply blk_alloc | apply blk_pu | apply blk_far)); all_goals (first | rfl | exact Aside0.out (by assumption))) : Aside0 (w2.heap[g]? = some o) := ⟨blk_below h hb⟩
theorem kp (g : Nat) (o : Obj) {W w2 : World} (hb : Below W.heap.size W w2) (h : W.heap[g]? = some o := by (repeat (with_reducible first | exact Aside0.out (by assumption) | apply blk_drewN | apply blk_drew | apply blk_alloc | apply blk_pu | apply blk_far)); all_goals (first | rfl | exact Aside0.out (by assumption))) : Aside0 (w2.heap[g]? = some o) := ⟨blk_below h hb⟩
theorem qT {p : Prop} (h : p := by repeat (first | (with_reducible exact Below.refl _ _) | (with_reducible apply below_alloc) | (with_reducible apply pw_below_drewN) | (with_reducible apply below_drew1))) : p := h
theorem qW {p : Prop} (h : p := by first | exact ⟨rfl, _, World.drewN_drewN _ _ _⟩ | exact ⟨rfl, _, Eq.trans (World.drewN_drewN _ _ _) (congrArg (World.drewN _) (Nat.add_assoc _ _ _))⟩) : p := h
theorem qC {p : Prop} (h : p := by repeat (first | exact (Kd.C_below (Aside0.out (by assumption)) HB.out) | (with_reducible exact Aside0.out (by assumption)) | (with_reducible refine Kd.C_alloc ?_ _) | (with_reducible refine Kd.C_drewN ?_ _) | (with_reducible refine Kd.C_drew ?_))) : p := h
section
variable {P : Program} {ops : Array Oper} {rest : List Oper} {o : Oper} {a : Act} {Q : Exit → Act → World → Prop}
theorem gd (N : Nat) (_hd : o.dst = some N) {W : World} (h : wpList P ops Q (o :: rest) a W) : wpList P ops Q (o :: rest) a W := h
theorem gc (f : FuncId) {os : Array Operand} {ts : Array TypeId} (_ho : o.op = .call { callee := .value (.func f), args := os, argTypes := ts }) {W : World} (h : wpList P ops Q (o :: rest) a W) : wpList P ops Q (o :: rest) a W := h
theorem bx (N : Nat) (cs : Array Value) (t : TypeId) {W : World} (h : ∀ g, g = W.heap.size → ∀ w1, w1.heap[g]? = some (.cells cs t (0, 0)) → Below W.heap.size W w1 → wpList P ops Q rest (a.put o.dst (.pointer (some ⟨g, 0, none⟩))) w1)
    (hd : o.dst = some N := by with_reducible rfl) (hgd : o.guard = none := by rfl)
    (hr : (execOp a.eval o).run P W = .ok (.value (.pointer (some ⟨W.heap.size, 0, none⟩))) (W.alloc (.cells cs t (0, 0))) := by first | (go_simp; done) | (go_simp; rfl)) : wpList P ops Q (o :: rest) a W := box_event hgd hd hr h
theorem gl (N : Option Tmp) (args : Array Value) {f : FuncId} {fn : Func} {os : Array Operand} {ts : Array TypeId} {w : World} (hf : P.funcs[f]? = some fn)
    (h : Calls P f args w fun e w' => ∃ v, e = .returned v ∧ wpList P ops Q rest (a.put N v) w')
    (hop : o.op = .call { callee := .value (.func f), args := os, argTypes := ts } := by with_reducible rfl) (hd : o.dst = N := by rfl) (hg : o.guard = none := by rfl) (hname : (fn.name == "runtime.NumGoroutine") = false := by kernel_rfl) (hb : fn.body.isSome = true := by rfl)
    (hargs : os.map a.eval = args := by (try simp only [List.map_toArray, List.map_cons, List.map_nil]); first | done | rfl | (simp only [List.length_drop, List.length_take]; rfl)) : wpList P ops Q (o :: rest) a w := goesL_ N hd hg hf hname hb args hop hargs h
end
section
variable {α : Type} {d : Kd α} {e base : Nat} {ok : Nat → Prop} {v : Value} {xs : List α} {w0 W w2 : World}
theorem rb (h : Aside0 (d.R e w0 base ok v xs)) (hb : Below W.heap.size W w2) (k : Below w0.heap.size w0 W := by repeat (first | (with_reducible exact Below.refl _ _) | (with_reducible apply below_alloc) | (with_reducible apply pw_below_drewN) | (with_reducible apply below_drew1))) : Aside0 (d.R e w2 base ok v xs) := ⟨Kd.R_below (Kd.R_below h.out k) hb⟩
theorem cr {A : Option Addr} {n c : Nat} (h : Aside0 (d.R e w0 base ok (.slice A n c) xs)) (k : Below w0.heap.size w0 W := by repeat (first | (with_reducible exact Below.refl _ _) | (with_reducible apply below_alloc) | (with_reducible apply pw_below_drewN) | (with_reducible apply below_drew1))) : d.C W A xs.length xs := Kd.C_below (Kd.R_reads' h.out).2.2 k
end
theorem iD {α : Type} {c : Prop} [Decidable c] {a b r : α} (h : (if c then a else b) = r) : (decide c = true ∧ a = r) ∨ (decide c = false ∧ b = r) := by
  by_cases hc : c
  · rw [if_pos hc] at h; exact Or.inl ⟨decide_eq_true hc, h⟩
  · rw [if_neg hc] at h; exact Or.inr ⟨decide_eq_false hc, h⟩
theorem kk (g' : Nat) {g : Nat} {w w1 : World} {o : Obj} (hk : KeepBut w w1 g none) (hn : Aside0 (g' ≠ g)) (h : w.heap[g']? = some o := by (repeat (with_reducible first | exact Aside0.out (by assumption) | apply blk_drewN | apply blk_drew | apply blk_alloc | apply blk_pu | apply blk_far)); all_goals (first | rfl | exact Aside0.out (by assumption))) : Aside0 (w1.heap[g']? = some o) := ⟨KeepBut.blk hk h hn.out (by simp)⟩
theorem kkp (g' : Nat) (o : Obj) {g : Nat} {w w1 : World} (hk : KeepBut w w1 g none) (hn : Aside0 (g' ≠ g)) (h : w.heap[g']? = some o := by (repeat (with_reducible first | exact Aside0.out (by assumption) | apply blk_drewN | apply blk_drew | apply blk_alloc | apply blk_pu | apply blk_far)); all_goals (first | rfl | exact Aside0.out (by assumption))) : Aside0 (w1.heap[g']? = some o) := ⟨KeepBut.blk hk h hn.out (by simp)⟩
theorem cellsI {w0 w : World} {g : Nat} {s : ByteArray} {i : Int} (h : IsS122 w0 w g s i) : w.cell? ⟨g, 0, none⟩ = some (.string s) ∧ w.cell? ⟨g, 1, none⟩ = some (.int .i64 i) ∧ w.frozen? ⟨g, 0, none⟩ = false ∧ w.frozen? ⟨g, 1, none⟩ = false := ⟨blk_cell h.1 0, blk_cell h.1 1, blk_frozen h.1 0, blk_frozen h.1 1⟩
theorem fls (n : Nat) {l : Array Bool} (h : Array.replicate n false = l := by rewrite [← List.toArray_replicate]; simp only [List.replicate]; first | done | rfl) : Array.replicate n false = l := h
theorem cells2 {w : World} {g t : Nat} {a b : Value} (h : w.heap[g]? = some (.cells #[a, b] t (0, 0))) : w.cell? ⟨g, 0, none⟩ = some a ∧ w.cell? ⟨g, 1, none⟩ = some b ∧ w.frozen? ⟨g, 0, none⟩ = false ∧ w.frozen? ⟨g, 1, none⟩ = false := ⟨blk_cell h 0, blk_cell h 1, blk_frozen h 0, blk_frozen h 1⟩
theorem cells3 {w : World} {g t : Nat} {a b c : Value} (h : w.heap[g]? = some (.cells #[a, b, c] t (0, 0))) : w.cell? ⟨g, 0, none⟩ = some a ∧ w.cell? ⟨g, 1, none⟩ = some b ∧ w.cell? ⟨g, 2, none⟩ = some c ∧ w.frozen? ⟨g, 0, none⟩ = false ∧ w.frozen? ⟨g, 1, none⟩ = false ∧ w.frozen? ⟨g, 2, none⟩ = false := ⟨blk_cell h 0, blk_cell h 1, blk_cell h 2, blk_frozen h 0, blk_frozen h 1, blk_frozen h 2⟩
theorem cells4 {w : World} {g t : Nat} {a b c d : Value} (h : w.heap[g]? = some (.cells #[a, b, c, d] t (0, 0))) : w.cell? ⟨g, 0, none⟩ = some a ∧ w.cell? ⟨g, 1, none⟩ = some b ∧ w.cell? ⟨g, 2, none⟩ = some c ∧ w.cell? ⟨g, 3, none⟩ = some d ∧ w.frozen? ⟨g, 0, none⟩ = false ∧ w.frozen? ⟨g, 1, none⟩ = false ∧ w.frozen? ⟨g, 2, none⟩ = false ∧ w.frozen? ⟨g, 3, none⟩ = false := ⟨blk_cell h 0, blk_cell h 1, blk_cell h 2, blk_cell h 3, blk_frozen h 0, blk_frozen h 1, blk_frozen h 2, blk_frozen h 3⟩
theorem cells7 {w : World} {g t : Nat} {a b c d e f i : Value} (h : w.heap[g]? = some (.cells #[a, b, c, d, e, f, i] t (0, 0))) : w.cell? ⟨g, 0, none⟩ = some a ∧ w.cell? ⟨g, 1, none⟩ = some b ∧ w.cell? ⟨g, 2, none⟩ = some c ∧ w.cell? ⟨g, 3, none⟩ = some d ∧ w.cell? ⟨g, 4, none⟩ = some e ∧ w.cell? ⟨g, 5, none⟩ = some f ∧ w.cell? ⟨g, 6, none⟩ = some i ∧ w.frozen? ⟨g, 0, none⟩ = false ∧ w.frozen? ⟨g, 1, none⟩ = false ∧ w.frozen? ⟨g, 2, none⟩ = false ∧ w.frozen? ⟨g, 3, none⟩ = false ∧ w.frozen? ⟨g, 4, none⟩ = false ∧ w.frozen? ⟨g, 5, none⟩ = false ∧ w.frozen? ⟨g, 6, none⟩ = false := ⟨blk_cell h 0, blk_cell h 1, blk_cell h 2, blk_cell h 3, blk_cell h 4, blk_cell h 5, blk_cell h 6, blk_frozen h 0, blk_frozen h 1, blk_frozen h 2, blk_frozen h 3, blk_frozen h 4, blk_frozen h 5, blk_frozen h 6⟩
end
section
variable {P : Program} {ops : Array Oper} {Q : Exit → Act → World → Prop} {md : Region.Mode} {S : World → Prop} {ds : List Nat} {fuel : Nat} {l : Array Bool} {a a' : Act} {w : World}
theorem nq (h : wpAnyLast P md ops Q S ds fuel l a' w) (ha : a = a' := by first | (simp only [putAll, Act.put, List.setIfInBounds_toArray, List.set_cons_zero, List.set_cons_succ]; done) | (simp only [putAll, Act.put, List.setIfInBounds_toArray, List.set_cons_zero, List.set_cons_succ]; rfl)) : wpAnyLast P md ops Q S ds fuel l a w := norm_ ha h
end
theorem c22 {w : World} {g g' t t' : Nat} {a b c d : Value} (h : Aside0 (w.heap[g]? = some (.cells #[a, b] t (0, 0)))) (h' : Aside0 (w.heap[g']? = some (.cells #[c, d] t' (0, 0)))) : w.cell? ⟨g, 0, none⟩ = some a ∧ w.cell? ⟨g, 1, none⟩ = some b ∧ w.cell? ⟨g', 0, none⟩ = some c ∧ w.cell? ⟨g', 1, none⟩ = some d := ⟨blk_cell h.out 0, blk_cell h.out 1, blk_cell h'.out 0, blk_cell h'.out 1⟩
section
variable {P : Program} {ops : Array Oper} {rest : List Oper} {o : Oper} {a : Act} {Q : Exit → Act → World → Prop}
theorem bxx (N : Nat) (cs : Array Value) (t : TypeId) {w0 W : World} (h : ∀ g, ∀ w1, Aside0 (w1.heap[g]? = some (.cells cs t (0, 0))) → Aside0 (w0.heap.size ≤ g) → Aside0 (Below w0.heap.size w0 w1) → wpList P ops Q rest (a.put o.dst (.pointer (some ⟨g, 0, none⟩))) w1)
    (hB : Below w0.heap.size w0 W := by repeat (first | (with_reducible first | exact HB.out | apply below_alloc | apply pw_below_drewN | apply below_drew1 | refine below_set ?_ (Aside0.out (by assumption)) | refine below_set ?_ (IsS122.ge HI0.out)) | exact HB.out))
    (hd : o.dst = some N := by with_reducible rfl) (hgd : o.guard = none := by rfl)
    (hr : (execOp a.eval o).run P W = .ok (.value (.pointer (some ⟨W.heap.size, 0, none⟩))) (W.alloc (.cells cs t (0, 0))) := by first | (go_simp; done) | (go_simp; rfl)) : wpList P ops Q (o :: rest) a W :=
  box_event hgd hd hr (fun g hg w1 h1 h2 => h g w1 ⟨h1⟩ ⟨by rw [hg]; exact below_size hB⟩ ⟨below_step hB h2⟩)
end
theorem qE {p : Prop} (h : p := by first | rfl | (simp; done) | (simp [*]; done)) : p := h
theorem qN {p q : Prop} (h : p := by first | rfl | (simp; done) | (simp [*]; done)) (k : q := by repeat (first | exact Drawn0.refl _ | apply Drawn0.step)) : p ∧ q := ⟨h, k⟩
theorem rct {fn : Func} {R : Ending → World → Prop} {a : Act} {w : World} {p u : Tmp} {ty : TypeId} {fs : Array Field} (g : Nat) (t : TypeId) (cs : Array Value) (hu : Tryd.prog.underlying ty = some (.struct fs)) (hR : R (.returned (.tuple #[.agg cs, a.tmps.getD u undef])) w) (h : fn.results = #[.cell p ty, .tmp u] := by rfl)
    (hp : a.tmps.getD p undef = .pointer (some ⟨g, 0, none⟩) := by rfl) (hg : w.heap[g]? = some (.cells cs t (0, 0)) := by (repeat (with_reducible first | exact Aside0.out (by assumption) | apply blk_drewN | apply blk_drew | apply blk_alloc | apply blk_pu | apply blk_far)); all_goals (first | rfl | exact Aside0.out (by assumption)))
    (hi : (Tryd.prog.info? ty).map (·.size) = some cs.size := by kernel_rfl) (hdf : a.defers = [] := by rfl) : bodyPost Tryd.prog fn R .ret a w :=
  bodyPost_ret (results_ct h _ _ g t cs (0, 0) _ hp hg hu rfl hi) hdf hR
end Go.Proofs.YtbngfhlciebeeaaDoor.L
end
section
namespace Go.Proofs.YtbngfhlciebeeaaDoor.L
open Go.RowKit Go.Proofs.YtbngfhlciebeeaaDoorW.PrintWords Go.Proofs.YtbngfhlciebeeaaDoorW.PrintLast Go.Proofs.YtbngfhlciebeeaaDoorW.PrintMore
attribute [local go_sem] max2_int min2_int max_two min_two max_three min_three max_four min_four   -- for this text's walks alone
set_option linter.unusedVariables false
set_option linter.unusedSimpArgs false
def tok_Lex_1.f (a0 : Int) : Option (Bool) := some (a0 == 32)
set_option maxHeartbeats 8000000 in
set_option maxRecDepth 100000 in
theorem tok_Lex_1.calls (a0 : Int) (r : Bool) (w : World) (h : tok_Lex_1.f a0 = some r) :
  Calls Tryd.prog 68 #[.int .u8 a0] w fun e w' => e = .returned (.bool r) ∧ Drawn0 w w' := by
 have H : (some (a0 == 32)) = some r := h
 clear h
 obtain rfl := Option.some.inj H
 go_enter Tryd.func68, Tryd.ntmps68
 go_wp2
 go_ret
 exact qN
def tok_reader_while_blank.l0 : Nat → Int → ByteArray → Int → Option (ByteArray × ByteArray × Int)
 | 0, _, _, _ => none
 | k + 1, x5, x1000, x1001 => if x1001 < (x1000.size : Int) then (if 0 ≤ x1001 then ((tok_Lex_1.f (bt x1000 x1001)).bind fun t155 => (if t155 = true then (tok_reader_while_blank.l0 k x5 x1000 (wrap64 (x1001 + 1))) else (if 0 ≤ x5 then (if x5 ≤ x1001 then (if x1001 ≤ (x1000.size : Int) then (some (x1000.extract (x5 : Int).toNat (x1001 : Int).toNat, x1000, x1001)) else (none)) else (none)) else (none)))) else (none)) else (if 0 ≤ x5 then (if x5 ≤ x1001 then (if x1001 ≤ (x1000.size : Int) then (some (x1000.extract (x5 : Int).toNat (x1001 : Int).toNat, x1000, x1001)) else (none)) else (none)) else (none))
def tok_reader_while_blank.f (k : Nat) (s0_0 : ByteArray) (s0_1 : Int) : Option (ByteArray × ByteArray × Int) := tok_reader_while_blank.l0 k s0_1 s0_0 s0_1
set_option maxHeartbeats 8000000 in
set_option maxRecDepth 100000 in
theorem tok_reader_while_blank.calls (k : Nat) (g : Nat) (s0_0 : ByteArray) (s0_1 : Int) (r1 : ByteArray) (r2 : ByteArray) (r3 : Int) (w0 w : World) (hI : IsS122 w0 w g s0_0 s0_1) (hB : Below w0.heap.size w0 w) (h : tok_reader_while_blank.f k s0_0 s0_1 = some (r1, r2, r3)) :
  Calls Tryd.prog 67 #[.pointer (some ⟨g, 0, none⟩), .func (.func 68) #[] #[]] w fun e w' => e = .returned (.string r1) ∧ IsS122 w0 w' g r2 r3 ∧ Below w0.heap.size w0 w' ∧ KeepBut w w' g none := by
 have HI0 := Aside0.mk hI
 have HK := Aside0.mk (KeepBut.refl w g none)
 have HL := Aside0.mk hB.size
 clear hI
 have HW0 := Aside0.mk hB.size
 have HB := Aside0.mk hB
 clear hB
 have H : (tok_reader_while_blank.l0 k s0_1 s0_0 s0_1) = some (r1, r2, r3) := h
 clear h
 have H' := Aside0.mk H
 clear H
 obtain ⟨_, _, _, _⟩ := cellsI HI0.out
 go_enter Tryd.func67, Tryd.ntmps67
 go_wp2
 repeat (go_quiet (fail); try go_wp2)
 go_loopg [] k (fun kq w' => ∃ (x1001_1 : Int), Aside0 (tok_reader_while_blank.l0 kq s0_1 s0_0 x1001_1 = some (r1, r2, r3)) ∧ Aside0 (kq ≤ k) ∧ Aside0 (IsS122 w0 w' g s0_0 x1001_1) ∧ Aside0 (KeepBut w w' g none) ∧ Aside0 (Below w0.heap.size w0 w'))
 case atStart => exact ⟨(s0_1), H', ⟨Nat.le_refl _⟩, ⟨qI⟩, ⟨qH⟩, ⟨qB⟩⟩
 case round =>
  clear H'
  try clear p2
  obtain ⟨x1001_1, HA, HK1, HI0, HK, HB⟩ := hrel
  cases gk with
  | zero => exact absurd HA.out (by simp [tok_reader_while_blank.l0])
  | succ k1 =>
   have H := HA.out
   clear HA
   simp only [tok_reader_while_blank.l0] at H
   replace H := iD H
   rcases H with ⟨c3b0, H⟩ | ⟨c3b0, H⟩
   ·by_cases c4 : 0 ≤ x1001_1
    ·rw [if_pos c4] at H; have c4b0 := decide_eq_true c4; clear c4; replace H := Option.bind_eq_some_iff.mp H; obtain ⟨t155, A60, H⟩ := H; (try dsimp -simprocs only at H); have A6 := Aside0.mk A60; clear A60
     by_cases c7 : t155 = true
     ·subst c7; rw [if_pos rfl] at H; have H' := Aside0.mk H; clear H; obtain ⟨_, _, _, _⟩ := cellsI HI0.out; have p5 : 0 ≤ (x1001_1 : Int) := qD; have q5 : x1001_1 < (s0_0.size : Int) := qD; have hx5 := bt_at s0_0 x1001_1; replace p5 := eq_true p5; replace q5 := eq_true q5
      go_wp2_with (first | (go_at_call 68; (with_reducible refine (tok_Lex_1.calls (bt s0_0 x1001_1) true _ A6.out).mono ?_); rintro e w' ⟨rfl, ⟨nd, rfl⟩⟩; (try exact qW)))
      repeat (go_quiet (first | (go_at_call 68; (with_reducible refine (tok_Lex_1.calls (bt s0_0 x1001_1) true _ A6.out).mono ?_); rintro e w' ⟨rfl, ⟨nd, rfl⟩⟩; (try exact qW))); try go_wp2_with (first | (go_at_call 68; (with_reducible refine (tok_Lex_1.calls (bt s0_0 x1001_1) true _ A6.out).mono ?_); rintro e w' ⟨rfl, ⟨nd, rfl⟩⟩; (try exact qW))))
      go_roundg k1
      case measure => have := HK1.out; omega
      case rel => exact ⟨(wrap64 (x1001_1 + 1)), H', ⟨by have := HK1.out; omega⟩, ⟨qI⟩, ⟨qH⟩, ⟨qB⟩⟩
     replace c7 := Bool.eq_false_iff.mpr c7; subst c7; rw [if_neg (show ¬ (false = true) by decide)] at H
     by_cases c9 : 0 ≤ s0_1
     ·rw [if_pos c9] at H; have c9b0 := eq_true c9; have c9b1 := decide_eq_true c9; clear c9
      by_cases c10 : s0_1 ≤ x1001_1
      ·rw [if_pos c10] at H; have c10b0 := eq_true c10; have c10b1 := decide_eq_true c10; clear c10
       by_cases c11 : x1001_1 ≤ (s0_0.size : Int)
       ·rw [if_pos c11] at H; have c11b0 := eq_true c11; have c11b1 := decide_eq_true c11; clear c11; simp only [Option.some.injEq, Prod.mk.injEq] at H; obtain ⟨rfl, rfl, rfl⟩ := H; obtain ⟨_, _, _, _⟩ := cellsI HI0.out; have p5 : 0 ≤ (x1001_1 : Int) := qD; have q5 : x1001_1 < (s0_0.size : Int) := qD; have hx5 := bt_at s0_0 x1001_1; replace p5 := eq_true p5; replace q5 := eq_true q5
        go_wp2_with (first | (go_at_call 68; (with_reducible refine (tok_Lex_1.calls (bt s0_0 x1001_1) false _ A6.out).mono ?_); rintro e w' ⟨rfl, ⟨nd, rfl⟩⟩; (try exact qW)))
        repeat (go_quiet (first | (go_at_call 68; (with_reducible refine (tok_Lex_1.calls (bt s0_0 x1001_1) false _ A6.out).mono ?_); rintro e w' ⟨rfl, ⟨nd, rfl⟩⟩; (try exact qW))); try go_wp2_with (first | (go_at_call 68; (with_reducible refine (tok_Lex_1.calls (bt s0_0 x1001_1) false _ A6.out).mono ?_); rintro e w' ⟨rfl, ⟨nd, rfl⟩⟩; (try exact qW))))
        go_ret; exact ⟨qR, qI, qB, qH⟩
       rw [if_neg c11] at H; exact absurd H (by simp)
      rw [if_neg c10] at H; exact absurd H (by simp)
     rw [if_neg c9] at H; exact absurd H (by simp)
    rw [if_neg c4] at H
    exact absurd H (by simp)
   by_cases c13 : 0 ≤ s0_1
   ·rw [if_pos c13] at H
    have c13b0 := eq_true c13
    have c13b1 := decide_eq_true c13
    clear c13
    by_cases c14 : s0_1 ≤ x1001_1
    ·rw [if_pos c14] at H; have c14b0 := eq_true c14; have c14b1 := decide_eq_true c14; clear c14
     by_cases c15 : x1001_1 ≤ (s0_0.size : Int)
     ·rw [if_pos c15] at H; have c15b0 := eq_true c15; have c15b1 := decide_eq_true c15; clear c15; simp only [Option.some.injEq, Prod.mk.injEq] at H; obtain ⟨rfl, rfl, rfl⟩ := H; obtain ⟨_, _, _, _⟩ := cellsI HI0.out
      go_wp2
      repeat (go_quiet (fail); try go_wp2)
      go_ret; exact ⟨qR, qI, qB, qH⟩
     rw [if_neg c15] at H; exact absurd H (by simp)
    rw [if_neg c14] at H
    exact absurd H (by simp)
   rw [if_neg c13] at H
   exact absurd H (by simp)
def tok_small.f (a0 : Int) : Option (Bool) := if a0 ≥ 97 then (some (decide (a0 ≤ 122))) else (some false)
set_option maxHeartbeats 8000000 in
set_option maxRecDepth 100000 in
theorem tok_small.calls (a0 : Int) (r : Bool) (w : World) (h : tok_small.f a0 = some r) :
  Calls Tryd.prog 102 #[.int .u8 a0] w fun e w' => e = .returned (.bool r) ∧ Drawn0 w w' := by
 have H : (if a0 ≥ 97 then (some (decide (a0 ≤ 122))) else (some false)) = some r := h
 clear h
 replace H := iD H
 rcases H with ⟨c2b0, H⟩ | ⟨c2b0, H⟩
 ·obtain rfl := Option.some.inj H
  go_enter Tryd.func102, Tryd.ntmps102
  go_wp2
  go_ret
  exact qN
 obtain rfl := Option.some.inj H
 go_enter Tryd.func102, Tryd.ntmps102
 go_wp2
 go_ret
 exact qN
def tok_digit.f (a0 : Int) : Option (Bool) := if a0 ≥ 48 then (some (decide (a0 ≤ 57))) else (some false)
set_option maxHeartbeats 8000000 in
set_option maxRecDepth 100000 in
theorem tok_digit.calls (a0 : Int) (r : Bool) (w : World) (h : tok_digit.f a0 = some r) :
  Calls Tryd.prog 104 #[.int .u8 a0] w fun e w' => e = .returned (.bool r) ∧ Drawn0 w w' := by
 have H : (if a0 ≥ 48 then (some (decide (a0 ≤ 57))) else (some false)) = some r := h
 clear h
 replace H := iD H
 rcases H with ⟨c2b0, H⟩ | ⟨c2b0, H⟩
 ·obtain rfl := Option.some.inj H
  go_enter Tryd.func104, Tryd.ntmps104
  go_wp2
  go_ret
  exact qN
 obtain rfl := Option.some.inj H
 go_enter Tryd.func104, Tryd.ntmps104
 go_wp2
 go_ret
 exact qN
def tok_reader_word_1.f (a0 : Int) : Option (Bool) := (tok_small.f a0).bind fun t101 => (if t101 = true then (some true) else ((tok_digit.f a0).bind fun t102 => (if t102 = true then (some true) else (some (a0 == 95)))))
set_option maxHeartbeats 8000000 in
set_option maxRecDepth 100000 in
theorem tok_reader_word_1.calls (a0 : Int) (r : Bool) (w : World) (h : tok_reader_word_1.f a0 = some r) :
  Calls Tryd.prog 152 #[.int .u8 a0] w fun e w' => e = .returned (.bool r) ∧ Drawn0 w w' := by
 have H : ((tok_small.f a0).bind fun t101 => (if t101 = true then (some true) else ((tok_digit.f a0).bind fun t102 => (if t102 = true then (some true) else (some (a0 == 95)))))) = some r := h
 clear h
 replace H := Option.bind_eq_some_iff.mp H
 obtain ⟨t101, A20, H⟩ := H
 (try dsimp -simprocs only at H)
 have A2 := Aside0.mk A20
 clear A20
 by_cases c3 : t101 = true
 ·subst c3
  rw [if_pos rfl] at H
  obtain rfl := Option.some.inj H
  go_enter Tryd.func152, Tryd.ntmps152
  go_wp2_with (first | ((with_reducible refine gc 102 rfl ?_); refine gl (some 4) #[.int .u8 a0] Tryd.func102 ?_; (with_reducible refine (tok_small.calls a0 true _ A2.out).mono ?_); rintro e w' ⟨rfl, ⟨nd, rfl⟩⟩; refine ⟨_, rfl, ?_⟩))
  go_ret
  exact qN
 replace c3 := Bool.eq_false_iff.mpr c3
 subst c3
 rw [if_neg (show ¬ (false = true) by decide)] at H
 replace H := Option.bind_eq_some_iff.mp H
 obtain ⟨t102, A40, H⟩ := H
 (try dsimp -simprocs only at H)
 have A4 := Aside0.mk A40
 clear A40
 by_cases c5 : t102 = true
 ·subst c5
  rw [if_pos rfl] at H
  obtain rfl := Option.some.inj H
  go_enter Tryd.func152, Tryd.ntmps152
  go_wp2_with (first | ((with_reducible refine gc 102 rfl ?_); refine gl (some 4) #[.int .u8 a0] Tryd.func102 ?_; (with_reducible refine (tok_small.calls a0 false _ A2.out).mono ?_); rintro e w' ⟨rfl, ⟨nd, rfl⟩⟩; refine ⟨_, rfl, ?_⟩) | (go_at_call 104; (with_reducible refine (tok_digit.calls a0 true _ A4.out).mono ?_); rintro e w' ⟨rfl, ⟨nd, rfl⟩⟩))
  go_ret
  exact qN
 replace c5 := Bool.eq_false_iff.mpr c5
 subst c5
 rw [if_neg (show ¬ (false = true) by decide)] at H
 obtain rfl := Option.some.inj H
 go_enter Tryd.func152, Tryd.ntmps152
 go_wp2_with (first | ((with_reducible refine gc 102 rfl ?_); refine gl (some 4) #[.int .u8 a0] Tryd.func102 ?_; (with_reducible refine (tok_small.calls a0 false _ A2.out).mono ?_); rintro e w' ⟨rfl, ⟨nd, rfl⟩⟩; refine ⟨_, rfl, ?_⟩) | (go_at_call 104; (with_reducible refine (tok_digit.calls a0 false _ A4.out).mono ?_); rintro e w' ⟨rfl, ⟨nd, rfl⟩⟩))
 go_ret
 exact qN
def tok_reader_while_word.l0 : Nat → Int → ByteArray → Int → Option (ByteArray × ByteArray × Int)
 | 0, _, _, _ => none
 | k + 1, x5, x1000, x1001 => if x1001 < (x1000.size : Int) then (if 0 ≤ x1001 then ((tok_reader_word_1.f (bt x1000 x1001)).bind fun t103 => (if t103 = true then (tok_reader_while_word.l0 k x5 x1000 (wrap64 (x1001 + 1))) else (if 0 ≤ x5 then (if x5 ≤ x1001 then (if x1001 ≤ (x1000.size : Int) then (some (x1000.extract (x5 : Int).toNat (x1001 : Int).toNat, x1000, x1001)) else (none)) else (none)) else (none)))) else (none)) else (if 0 ≤ x5 then (if x5 ≤ x1001 then (if x1001 ≤ (x1000.size : Int) then (some (x1000.extract (x5 : Int).toNat (x1001 : Int).toNat, x1000, x1001)) else (none)) else (none)) else (none))
def tok_reader_while_word.f (k : Nat) (s0_0 : ByteArray) (s0_1 : Int) : Option (ByteArray × ByteArray × Int) := tok_reader_while_word.l0 k s0_1 s0_0 s0_1
set_option maxHeartbeats 8000000 in
set_option maxRecDepth 100000 in
theorem tok_reader_while_word.calls (k : Nat) (g : Nat) (s0_0 : ByteArray) (s0_1 : Int) (r1 : ByteArray) (r2 : ByteArray) (r3 : Int) (w0 w : World) (hI : IsS122 w0 w g s0_0 s0_1) (hB : Below w0.heap.size w0 w) (h : tok_reader_while_word.f k s0_0 s0_1 = some (r1, r2, r3)) :
  Calls Tryd.prog 67 #[.pointer (some ⟨g, 0, none⟩), .func (.func 152) #[] #[]] w fun e w' => e = .returned (.string r1) ∧ IsS122 w0 w' g r2 r3 ∧ Below w0.heap.size w0 w' ∧ KeepBut w w' g none := by
 have HI0 := Aside0.mk hI
 have HK := Aside0.mk (KeepBut.refl w g none)
 have HL := Aside0.mk hB.size
 clear hI
 have HW0 := Aside0.mk hB.size
 have HB := Aside0.mk hB
 clear hB
 have H : (tok_reader_while_word.l0 k s0_1 s0_0 s0_1) = some (r1, r2, r3) := h
 clear h
 have H' := Aside0.mk H
 clear H
 obtain ⟨_, _, _, _⟩ := cellsI HI0.out
 go_enter Tryd.func67, Tryd.ntmps67
 go_wp2
 repeat (go_quiet (fail); try go_wp2)
 go_loopg [] k (fun kq w' => ∃ (x1001_1 : Int), Aside0 (tok_reader_while_word.l0 kq s0_1 s0_0 x1001_1 = some (r1, r2, r3)) ∧ Aside0 (kq ≤ k) ∧ Aside0 (IsS122 w0 w' g s0_0 x1001_1) ∧ Aside0 (KeepBut w w' g none) ∧ Aside0 (Below w0.heap.size w0 w'))
 case atStart => exact ⟨(s0_1), H', ⟨Nat.le_refl _⟩, ⟨qI⟩, ⟨qH⟩, ⟨qB⟩⟩
 case round =>
  clear H'
  try clear p2
  obtain ⟨x1001_1, HA, HK1, HI0, HK, HB⟩ := hrel
  cases gk with
  | zero => exact absurd HA.out (by simp [tok_reader_while_word.l0])
  | succ k1 =>
   have H := HA.out
   clear HA
   simp only [tok_reader_while_word.l0] at H
   replace H := iD H
   rcases H with ⟨c3b0, H⟩ | ⟨c3b0, H⟩
   ·by_cases c4 : 0 ≤ x1001_1
    ·rw [if_pos c4] at H; have c4b0 := decide_eq_true c4; clear c4; replace H := Option.bind_eq_some_iff.mp H; obtain ⟨t103, A60, H⟩ := H; (try dsimp -simprocs only at H); have A6 := Aside0.mk A60; clear A60
     by_cases c7 : t103 = true
     ·subst c7; rw [if_pos rfl] at H; have H' := Aside0.mk H; clear H; obtain ⟨_, _, _, _⟩ := cellsI HI0.out; have p5 : 0 ≤ (x1001_1 : Int) := qD; have q5 : x1001_1 < (s0_0.size : Int) := qD; have hx5 := bt_at s0_0 x1001_1; replace p5 := eq_true p5; replace q5 := eq_true q5
      go_wp2_with (first | (go_at_call 152; (with_reducible refine (tok_reader_word_1.calls (bt s0_0 x1001_1) true _ A6.out).mono ?_); rintro e w' ⟨rfl, ⟨nd, rfl⟩⟩; (try exact qW)))
      repeat (go_quiet (first | (go_at_call 152; (with_reducible refine (tok_reader_word_1.calls (bt s0_0 x1001_1) true _ A6.out).mono ?_); rintro e w' ⟨rfl, ⟨nd, rfl⟩⟩; (try exact qW))); try go_wp2_with (first | (go_at_call 152; (with_reducible refine (tok_reader_word_1.calls (bt s0_0 x1001_1) true _ A6.out).mono ?_); rintro e w' ⟨rfl, ⟨nd, rfl⟩⟩; (try exact qW))))
      go_roundg k1
      case measure => have := HK1.out; omega
      case rel => exact ⟨(wrap64 (x1001_1 + 1)), H', ⟨by have := HK1.out; omega⟩, ⟨qI⟩, ⟨qH⟩, ⟨qB⟩⟩
     replace c7 := Bool.eq_false_iff.mpr c7; subst c7; rw [if_neg (show ¬ (false = true) by decide)] at H
     by_cases c9 : 0 ≤ s0_1
     ·rw [if_pos c9] at H; have c9b0 := eq_true c9; have c9b1 := decide_eq_true c9; clear c9
      by_cases c10 : s0_1 ≤ x1001_1
      ·rw [if_pos c10] at H; have c10b0 := eq_true c10; have c10b1 := decide_eq_true c10; clear c10
       by_cases c11 : x1001_1 ≤ (s0_0.size : Int)
       ·rw [if_pos c11] at H; have c11b0 := eq_true c11; have c11b1 := decide_eq_true c11; clear c11; simp only [Option.some.injEq, Prod.mk.injEq] at H; obtain ⟨rfl, rfl, rfl⟩ := H; obtain ⟨_, _, _, _⟩ := cellsI HI0.out; have p5 : 0 ≤ (x1001_1 : Int) := qD; have q5 : x1001_1 < (s0_0.size : Int) := qD; have hx5 := bt_at s0_0 x1001_1; replace p5 := eq_true p5; replace q5 := eq_true q5
        go_wp2_with (first | (go_at_call 152; (with_reducible refine (tok_reader_word_1.calls (bt s0_0 x1001_1) false _ A6.out).mono ?_); rintro e w' ⟨rfl, ⟨nd, rfl⟩⟩; (try exact qW)))
        repeat (go_quiet (first | (go_at_call 152; (with_reducible refine (tok_reader_word_1.calls (bt s0_0 x1001_1) false _ A6.out).mono ?_); rintro e w' ⟨rfl, ⟨nd, rfl⟩⟩; (try exact qW))); try go_wp2_with (first | (go_at_call 152; (with_reducible refine (tok_reader_word_1.calls (bt s0_0 x1001_1) false _ A6.out).mono ?_); rintro e w' ⟨rfl, ⟨nd, rfl⟩⟩; (try exact qW))))
        go_ret; exact ⟨qR, qI, qB, qH⟩
       rw [if_neg c11] at H; exact absurd H (by simp)
      rw [if_neg c10] at H; exact absurd H (by simp)
     rw [if_neg c9] at H; exact absurd H (by simp)
    rw [if_neg c4] at H
    exact absurd H (by simp)
   by_cases c13 : 0 ≤ s0_1
   ·rw [if_pos c13] at H
    have c13b0 := eq_true c13
    have c13b1 := decide_eq_true c13
    clear c13
    by_cases c14 : s0_1 ≤ x1001_1
    ·rw [if_pos c14] at H; have c14b0 := eq_true c14; have c14b1 := decide_eq_true c14; clear c14
     by_cases c15 : x1001_1 ≤ (s0_0.size : Int)
     ·rw [if_pos c15] at H; have c15b0 := eq_true c15; have c15b1 := decide_eq_true c15; clear c15; simp only [Option.some.injEq, Prod.mk.injEq] at H; obtain ⟨rfl, rfl, rfl⟩ := H; obtain ⟨_, _, _, _⟩ := cellsI HI0.out
      go_wp2
      repeat (go_quiet (fail); try go_wp2)
      go_ret; exact ⟨qR, qI, qB, qH⟩
     rw [if_neg c15] at H; exact absurd H (by simp)
    rw [if_neg c14] at H
    exact absurd H (by simp)
   rw [if_neg c13] at H
   exact absurd H (by simp)
def tok_reader_while_digit.l0 : Nat → Int → ByteArray → Int → Option (ByteArray × ByteArray × Int)
 | 0, _, _, _ => none
 | k + 1, x5, x1000, x1001 => if x1001 < (x1000.size : Int) then (if 0 ≤ x1001 then ((tok_digit.f (bt x1000 x1001)).bind fun t116 => (if t116 = true then (tok_reader_while_digit.l0 k x5 x1000 (wrap64 (x1001 + 1))) else (if 0 ≤ x5 then (if x5 ≤ x1001 then (if x1001 ≤ (x1000.size : Int) then (some (x1000.extract (x5 : Int).toNat (x1001 : Int).toNat, x1000, x1001)) else (none)) else (none)) else (none)))) else (none)) else (if 0 ≤ x5 then (if x5 ≤ x1001 then (if x1001 ≤ (x1000.size : Int) then (some (x1000.extract (x5 : Int).toNat (x1001 : Int).toNat, x1000, x1001)) else (none)) else (none)) else (none))
def tok_reader_while_digit.f (k : Nat) (s0_0 : ByteArray) (s0_1 : Int) : Option (ByteArray × ByteArray × Int) := tok_reader_while_digit.l0 k s0_1 s0_0 s0_1
set_option maxHeartbeats 8000000 in
set_option maxRecDepth 100000 in
theorem tok_reader_while_digit.calls (k : Nat) (g : Nat) (s0_0 : ByteArray) (s0_1 : Int) (r1 : ByteArray) (r2 : ByteArray) (r3 : Int) (w0 w : World) (hI : IsS122 w0 w g s0_0 s0_1) (hB : Below w0.heap.size w0 w) (h : tok_reader_while_digit.f k s0_0 s0_1 = some (r1, r2, r3)) :
  Calls Tryd.prog 67 #[.pointer (some ⟨g, 0, none⟩), .func (.func 104) #[] #[]] w fun e w' => e = .returned (.string r1) ∧ IsS122 w0 w' g r2 r3 ∧ Below w0.heap.size w0 w' ∧ KeepBut w w' g none := by
 have HI0 := Aside0.mk hI
 have HK := Aside0.mk (KeepBut.refl w g none)
 have HL := Aside0.mk hB.size
 clear hI
 have HW0 := Aside0.mk hB.size
 have HB := Aside0.mk hB
 clear hB
 have H : (tok_reader_while_digit.l0 k s0_1 s0_0 s0_1) = some (r1, r2, r3) := h
 clear h
 have H' := Aside0.mk H
 clear H
 obtain ⟨_, _, _, _⟩ := cellsI HI0.out
 go_enter Tryd.func67, Tryd.ntmps67
 go_wp2
 repeat (go_quiet (fail); try go_wp2)
 go_loopg [] k (fun kq w' => ∃ (x1001_1 : Int), Aside0 (tok_reader_while_digit.l0 kq s0_1 s0_0 x1001_1 = some (r1, r2, r3)) ∧ Aside0 (kq ≤ k) ∧ Aside0 (IsS122 w0 w' g s0_0 x1001_1) ∧ Aside0 (KeepBut w w' g none) ∧ Aside0 (Below w0.heap.size w0 w'))
 case atStart => exact ⟨(s0_1), H', ⟨Nat.le_refl _⟩, ⟨qI⟩, ⟨qH⟩, ⟨qB⟩⟩
 case round =>
  clear H'
  try clear p2
  obtain ⟨x1001_1, HA, HK1, HI0, HK, HB⟩ := hrel
  cases gk with
  | zero => exact absurd HA.out (by simp [tok_reader_while_digit.l0])
  | succ k1 =>
   have H := HA.out
   clear HA
   simp only [tok_reader_while_digit.l0] at H
   replace H := iD H
   rcases H with ⟨c3b0, H⟩ | ⟨c3b0, H⟩
   ·by_cases c4 : 0 ≤ x1001_1
    ·rw [if_pos c4] at H; have c4b0 := decide_eq_true c4; clear c4; replace H := Option.bind_eq_some_iff.mp H; obtain ⟨t116, A60, H⟩ := H; (try dsimp -simprocs only at H); have A6 := Aside0.mk A60; clear A60
     by_cases c7 : t116 = true
     ·subst c7; rw [if_pos rfl] at H; have H' := Aside0.mk H; clear H; obtain ⟨_, _, _, _⟩ := cellsI HI0.out; have p5 : 0 ≤ (x1001_1 : Int) := qD; have q5 : x1001_1 < (s0_0.size : Int) := qD; have hx5 := bt_at s0_0 x1001_1; replace p5 := eq_true p5; replace q5 := eq_true q5
      go_wp2_with (first | (go_at_call 104; (with_reducible refine (tok_digit.calls (bt s0_0 x1001_1) true _ A6.out).mono ?_); rintro e w' ⟨rfl, ⟨nd, rfl⟩⟩; (try exact qW)))
      repeat (go_quiet (first | (go_at_call 104; (with_reducible refine (tok_digit.calls (bt s0_0 x1001_1) true _ A6.out).mono ?_); rintro e w' ⟨rfl, ⟨nd, rfl⟩⟩; (try exact qW))); try go_wp2_with (first | (go_at_call 104; (with_reducible refine (tok_digit.calls (bt s0_0 x1001_1) true _ A6.out).mono ?_); rintro e w' ⟨rfl, ⟨nd, rfl⟩⟩; (try exact qW))))
      go_roundg k1
      case measure => have := HK1.out; omega
      case rel => exact ⟨(wrap64 (x1001_1 + 1)), H', ⟨by have := HK1.out; omega⟩, ⟨qI⟩, ⟨qH⟩, ⟨qB⟩⟩
     replace c7 := Bool.eq_false_iff.mpr c7; subst c7; rw [if_neg (show ¬ (false = true) by decide)] at H
     by_cases c9 : 0 ≤ s0_1
     ·rw [if_pos c9] at H; have c9b0 := eq_true c9; have c9b1 := decide_eq_true c9; clear c9
      by_cases c10 : s0_1 ≤ x1001_1
      ·rw [if_pos c10] at H; have c10b0 := eq_true c10; have c10b1 := decide_eq_true c10; clear c10
       by_cases c11 : x1001_1 ≤ (s0_0.size : Int)
       ·rw [if_pos c11] at H; have c11b0 := eq_true c11; have c11b1 := decide_eq_true c11; clear c11; simp only [Option.some.injEq, Prod.mk.injEq] at H; obtain ⟨rfl, rfl, rfl⟩ := H; obtain ⟨_, _, _, _⟩ := cellsI HI0.out; have p5 : 0 ≤ (x1001_1 : Int) := qD; have q5 : x1001_1 < (s0_0.size : Int) := qD; have hx5 := bt_at s0_0 x1001_1; replace p5 := eq_true p5; replace q5 := eq_true q5
        go_wp2_with (first | (go_at_call 104; (with_reducible refine (tok_digit.calls (bt s0_0 x1001_1) false _ A6.out).mono ?_); rintro e w' ⟨rfl, ⟨nd, rfl⟩⟩; (try exact qW)))
        repeat (go_quiet (first | (go_at_call 104; (with_reducible refine (tok_digit.calls (bt s0_0 x1001_1) false _ A6.out).mono ?_); rintro e w' ⟨rfl, ⟨nd, rfl⟩⟩; (try exact qW))); try go_wp2_with (first | (go_at_call 104; (with_reducible refine (tok_digit.calls (bt s0_0 x1001_1) false _ A6.out).mono ?_); rintro e w' ⟨rfl, ⟨nd, rfl⟩⟩; (try exact qW))))
        go_ret; exact ⟨qR, qI, qB, qH⟩
       rw [if_neg c11] at H; exact absurd H (by simp)
      rw [if_neg c10] at H; exact absurd H (by simp)
     rw [if_neg c9] at H; exact absurd H (by simp)
    rw [if_neg c4] at H
    exact absurd H (by simp)
   by_cases c13 : 0 ≤ s0_1
   ·rw [if_pos c13] at H
    have c13b0 := eq_true c13
    have c13b1 := decide_eq_true c13
    clear c13
    by_cases c14 : s0_1 ≤ x1001_1
    ·rw [if_pos c14] at H; have c14b0 := eq_true c14; have c14b1 := decide_eq_true c14; clear c14
     by_cases c15 : x1001_1 ≤ (s0_0.size : Int)
     ·rw [if_pos c15] at H; have c15b0 := eq_true c15; have c15b1 := decide_eq_true c15; clear c15; simp only [Option.some.injEq, Prod.mk.injEq] at H; obtain ⟨rfl, rfl, rfl⟩ := H; obtain ⟨_, _, _, _⟩ := cellsI HI0.out
      go_wp2
      repeat (go_quiet (fail); try go_wp2)
      go_ret; exact ⟨qR, qI, qB, qH⟩
     rw [if_neg c15] at H; exact absurd H (by simp)
    rw [if_neg c14] at H
    exact absurd H (by simp)
   rw [if_neg c13] at H
   exact absurd H (by simp)
def tok_reader_quote_1.f (a0 : Int) : Option (Bool) := some (a0 != 39)
set_option maxHeartbeats 8000000 in
set_option maxRecDepth 100000 in
theorem tok_reader_quote_1.calls (a0 : Int) (r : Bool) (w : World) (h : tok_reader_quote_1.f a0 = some r) :
  Calls Tryd.prog 133 #[.int .u8 a0] w fun e w' => e = .returned (.bool r) ∧ Drawn0 w w' := by
 have H : (some (a0 != 39)) = some r := h
 clear h
 obtain rfl := Option.some.inj H
 go_enter Tryd.func133, Tryd.ntmps133
 go_wp2
 go_ret
 exact qN
def tok_reader_while_quote.l0 : Nat → Int → ByteArray → Int → Option (ByteArray × ByteArray × Int)
 | 0, _, _, _ => none
 | k + 1, x5, x1000, x1001 => if x1001 < (x1000.size : Int) then (if 0 ≤ x1001 then ((tok_reader_quote_1.f (bt x1000 x1001)).bind fun t117 => (if t117 = true then (tok_reader_while_quote.l0 k x5 x1000 (wrap64 (x1001 + 1))) else (if 0 ≤ x5 then (if x5 ≤ x1001 then (if x1001 ≤ (x1000.size : Int) then (some (x1000.extract (x5 : Int).toNat (x1001 : Int).toNat, x1000, x1001)) else (none)) else (none)) else (none)))) else (none)) else (if 0 ≤ x5 then (if x5 ≤ x1001 then (if x1001 ≤ (x1000.size : Int) then (some (x1000.extract (x5 : Int).toNat (x1001 : Int).toNat, x1000, x1001)) else (none)) else (none)) else (none))
def tok_reader_while_quote.f (k : Nat) (s0_0 : ByteArray) (s0_1 : Int) : Option (ByteArray × ByteArray × Int) := tok_reader_while_quote.l0 k s0_1 s0_0 s0_1
set_option maxHeartbeats 8000000 in
set_option maxRecDepth 100000 in
theorem tok_reader_while_quote.calls (k : Nat) (g : Nat) (s0_0 : ByteArray) (s0_1 : Int) (r1 : ByteArray) (r2 : ByteArray) (r3 : Int) (w0 w : World) (hI : IsS122 w0 w g s0_0 s0_1) (hB : Below w0.heap.size w0 w) (h : tok_reader_while_quote.f k s0_0 s0_1 = some (r1, r2, r3)) :
  Calls Tryd.prog 67 #[.pointer (some ⟨g, 0, none⟩), .func (.func 133) #[] #[]] w fun e w' => e = .returned (.string r1) ∧ IsS122 w0 w' g r2 r3 ∧ Below w0.heap.size w0 w' ∧ KeepBut w w' g none := by
 have HI0 := Aside0.mk hI
 have HK := Aside0.mk (KeepBut.refl w g none)
 have HL := Aside0.mk hB.size
 clear hI
 have HW0 := Aside0.mk hB.size
 have HB := Aside0.mk hB
 clear hB
 have H : (tok_reader_while_quote.l0 k s0_1 s0_0 s0_1) = some (r1, r2, r3) := h
 clear h
 have H' := Aside0.mk H
 clear H
 obtain ⟨_, _, _, _⟩ := cellsI HI0.out
 go_enter Tryd.func67, Tryd.ntmps67
 go_wp2
 repeat (go_quiet (fail); try go_wp2)
 go_loopg [] k (fun kq w' => ∃ (x1001_1 : Int), Aside0 (tok_reader_while_quote.l0 kq s0_1 s0_0 x1001_1 = some (r1, r2, r3)) ∧ Aside0 (kq ≤ k) ∧ Aside0 (IsS122 w0 w' g s0_0 x1001_1) ∧ Aside0 (KeepBut w w' g none) ∧ Aside0 (Below w0.heap.size w0 w'))
 case atStart => exact ⟨(s0_1), H', ⟨Nat.le_refl _⟩, ⟨qI⟩, ⟨qH⟩, ⟨qB⟩⟩
 case round =>
  clear H'
  try clear p2
  obtain ⟨x1001_1, HA, HK1, HI0, HK, HB⟩ := hrel
  cases gk with
  | zero => exact absurd HA.out (by simp [tok_reader_while_quote.l0])
  | succ k1 =>
   have H := HA.out
   clear HA
   simp only [tok_reader_while_quote.l0] at H
   replace H := iD H
   rcases H with ⟨c3b0, H⟩ | ⟨c3b0, H⟩
   ·by_cases c4 : 0 ≤ x1001_1
    ·rw [if_pos c4] at H; have c4b0 := decide_eq_true c4; clear c4; replace H := Option.bind_eq_some_iff.mp H; obtain ⟨t117, A60, H⟩ := H; (try dsimp -simprocs only at H); have A6 := Aside0.mk A60; clear A60
     by_cases c7 : t117 = true
     ·subst c7; rw [if_pos rfl] at H; have H' := Aside0.mk H; clear H; obtain ⟨_, _, _, _⟩ := cellsI HI0.out; have p5 : 0 ≤ (x1001_1 : Int) := qD; have q5 : x1001_1 < (s0_0.size : Int) := qD; have hx5 := bt_at s0_0 x1001_1; replace p5 := eq_true p5; replace q5 := eq_true q5
      go_wp2_with (first | (go_at_call 133; (with_reducible refine (tok_reader_quote_1.calls (bt s0_0 x1001_1) true _ A6.out).mono ?_); rintro e w' ⟨rfl, ⟨nd, rfl⟩⟩; (try exact qW)))
      repeat (go_quiet (first | (go_at_call 133; (with_reducible refine (tok_reader_quote_1.calls (bt s0_0 x1001_1) true _ A6.out).mono ?_); rintro e w' ⟨rfl, ⟨nd, rfl⟩⟩; (try exact qW))); try go_wp2_with (first | (go_at_call 133; (with_reducible refine (tok_reader_quote_1.calls (bt s0_0 x1001_1) true _ A6.out).mono ?_); rintro e w' ⟨rfl, ⟨nd, rfl⟩⟩; (try exact qW))))
      go_roundg k1
      case measure => have := HK1.out; omega
      case rel => exact ⟨(wrap64 (x1001_1 + 1)), H', ⟨by have := HK1.out; omega⟩, ⟨qI⟩, ⟨qH⟩, ⟨qB⟩⟩
     replace c7 := Bool.eq_false_iff.mpr c7; subst c7; rw [if_neg (show ¬ (false = true) by decide)] at H
     by_cases c9 : 0 ≤ s0_1
     ·rw [if_pos c9] at H; have c9b0 := eq_true c9; have c9b1 := decide_eq_true c9; clear c9
      by_cases c10 : s0_1 ≤ x1001_1
      ·rw [if_pos c10] at H; have c10b0 := eq_true c10; have c10b1 := decide_eq_true c10; clear c10
       by_cases c11 : x1001_1 ≤ (s0_0.size : Int)
       ·rw [if_pos c11] at H; have c11b0 := eq_true c11; have c11b1 := decide_eq_true c11; clear c11; simp only [Option.some.injEq, Prod.mk.injEq] at H; obtain ⟨rfl, rfl, rfl⟩ := H; obtain ⟨_, _, _, _⟩ := cellsI HI0.out; have p5 : 0 ≤ (x1001_1 : Int) := qD; have q5 : x1001_1 < (s0_0.size : Int) := qD; have hx5 := bt_at s0_0 x1001_1; replace p5 := eq_true p5; replace q5 := eq_true q5
        go_wp2_with (first | (go_at_call 133; (with_reducible refine (tok_reader_quote_1.calls (bt s0_0 x1001_1) false _ A6.out).mono ?_); rintro e w' ⟨rfl, ⟨nd, rfl⟩⟩; (try exact qW)))
        repeat (go_quiet (first | (go_at_call 133; (with_reducible refine (tok_reader_quote_1.calls (bt s0_0 x1001_1) false _ A6.out).mono ?_); rintro e w' ⟨rfl, ⟨nd, rfl⟩⟩; (try exact qW))); try go_wp2_with (first | (go_at_call 133; (with_reducible refine (tok_reader_quote_1.calls (bt s0_0 x1001_1) false _ A6.out).mono ?_); rintro e w' ⟨rfl, ⟨nd, rfl⟩⟩; (try exact qW))))
        go_ret; exact ⟨qR, qI, qB, qH⟩
       rw [if_neg c11] at H; exact absurd H (by simp)
      rw [if_neg c10] at H; exact absurd H (by simp)
     rw [if_neg c9] at H; exact absurd H (by simp)
    rw [if_neg c4] at H
    exact absurd H (by simp)
   by_cases c13 : 0 ≤ s0_1
   ·rw [if_pos c13] at H
    have c13b0 := eq_true c13
    have c13b1 := decide_eq_true c13
    clear c13
    by_cases c14 : s0_1 ≤ x1001_1
    ·rw [if_pos c14] at H; have c14b0 := eq_true c14; have c14b1 := decide_eq_true c14; clear c14
     by_cases c15 : x1001_1 ≤ (s0_0.size : Int)
     ·rw [if_pos c15] at H; have c15b0 := eq_true c15; have c15b1 := decide_eq_true c15; clear c15; simp only [Option.some.injEq, Prod.mk.injEq] at H; obtain ⟨rfl, rfl, rfl⟩ := H; obtain ⟨_, _, _, _⟩ := cellsI HI0.out
      go_wp2
      repeat (go_quiet (fail); try go_wp2)
      go_ret; exact ⟨qR, qI, qB, qH⟩
     rw [if_neg c15] at H; exact absurd H (by simp)
    rw [if_neg c14] at H
    exact absurd H (by simp)
   rw [if_neg c13] at H
   exact absurd H (by simp)
def stringslite_HasPrefix.f (a0 : ByteArray) (a1 : ByteArray) : Option (Bool) := if (a0.size : Int) ≥ (a1.size : Int) then (if 0 ≤ (a1.size : Int) then (if (a1.size : Int) ≤ (a0.size : Int) then (some ((a0.extract 0 ((a1.size : Int) : Int).toNat).toList == a1.toList)) else (none)) else (none)) else (some false)
set_option maxHeartbeats 8000000 in
set_option maxRecDepth 100000 in
theorem stringslite_HasPrefix.calls (a0 : ByteArray) (a1 : ByteArray) (r : Bool) (w : World) (h : stringslite_HasPrefix.f a0 a1 = some r) :
  Calls Tryd.prog 153 #[.string a0, .string a1] w fun e w' => e = .returned (.bool r) ∧ Drawn0 w w' := by
 have H : (if (a0.size : Int) ≥ (a1.size : Int) then (if 0 ≤ (a1.size : Int) then (if (a1.size : Int) ≤ (a0.size : Int) then (some ((a0.extract 0 ((a1.size : Int) : Int).toNat).toList == a1.toList)) else (none)) else (none)) else (some false)) = some r := h
 clear h
 by_cases c3 : (a0.size : Int) ≥ (a1.size : Int)
 ·rw [if_pos c3] at H
  have c3b0 := decide_eq_true c3
  have c3b1 : decide (a1.size ≤ a0.size) = true := decide_eq_true (Int.ofNat_le.mp c3)
  clear c3
  by_cases c4 : 0 ≤ (a1.size : Int)
  ·rw [if_pos c4] at H
   have c4b0 := eq_true c4
   have c4b1 := decide_eq_true c4
   clear c4
   by_cases c5 : (a1.size : Int) ≤ (a0.size : Int)
   ·rw [if_pos c5] at H
    have c5b0 := eq_true c5
    have c5b1 := decide_eq_true c5
    clear c5
    obtain rfl := Option.some.inj H
    go_enter Tryd.func153, Tryd.ntmps153
    go_wp2
    go_ret
    exact qN
   rw [if_neg c5] at H
   exact absurd H (by simp)
  rw [if_neg c4] at H
  exact absurd H (by simp)
 rw [if_neg c3] at H
 have c3b0 := decide_eq_false c3
 have c3b1 : decide (a1.size ≤ a0.size) = false := decide_eq_false (fun h => c3 (Int.ofNat_le.mpr h))
 clear c3
 obtain rfl := Option.some.inj H
 go_enter Tryd.func153, Tryd.ntmps153
 go_wp2
 go_ret
 exact qN
def strings_HasPrefix.f (a0 : ByteArray) (a1 : ByteArray) : Option (Bool) := (stringslite_HasPrefix.f a0 a1).bind fun t123 => (some t123)
set_option maxHeartbeats 8000000 in
set_option maxRecDepth 100000 in
theorem strings_HasPrefix.calls (a0 : ByteArray) (a1 : ByteArray) (r : Bool) (w : World) (h : strings_HasPrefix.f a0 a1 = some r) :
  Calls Tryd.prog 134 #[.string a0, .string a1] w fun e w' => e = .returned (.bool r) ∧ Drawn0 w w' := by
 have H : ((stringslite_HasPrefix.f a0 a1).bind fun t123 => (some t123)) = some r := h
 clear h
 replace H := Option.bind_eq_some_iff.mp H
 obtain ⟨t123, A30, H⟩ := H
 (try dsimp -simprocs only at H)
 have A3 := Aside0.mk A30
 clear A30
 obtain rfl := Option.some.inj H
 go_enter Tryd.func134, Tryd.ntmps134
 go_wp2_with (first | ((with_reducible refine gc 153 rfl ?_); refine gl (some 7) #[.string a0, .string a1] Tryd.func153 ?_; (with_reducible refine (stringslite_HasPrefix.calls a0 a1 t123 _ A3.out).mono ?_); rintro e w' ⟨rfl, ⟨nd, rfl⟩⟩; refine ⟨_, rfl, ?_⟩))
 go_ret
 exact qN
end Go.Proofs.YtbngfhlciebeeaaDoor.L
end
