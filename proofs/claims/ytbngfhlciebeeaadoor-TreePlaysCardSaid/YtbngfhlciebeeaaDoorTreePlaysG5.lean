/- Printed and hand-written steps towards the row (TreePlays), those that it reaches. -/
import Derived.Test.YtbngfhlciebeeaaDoorProg
import Derived.Tactics
import Derived.WalkKit
import Derived.KernelRfl
import Derived.Laws.BitsLemmas
import Derived.OrdersHeld
import Derived.Test.YtbngfhlciebeeaaDoorTreePlaysWWords
import Derived.Test.YtbngfhlciebeeaaDoorTreePlaysWLast
import Derived.Test.YtbngfhlciebeeaaDoorTreePlaysG3
import Derived.Test.YtbngfhlciebeeaaDoorTreePlaysG4
section
namespace Go.Proofs.YtbngfhlciebeeaaDoor.L
set_option linter.unusedVariables false
open Go.RowKit Go.Proofs.YtbngfhlciebeeaaDoorW.PrintWords Go.Proofs.YtbngfhlciebeeaaDoorW.PrintLast Go.Proofs.YtbngfhlciebeeaaDoorW.PrintMore
section
variable {P : Program} {ops : Array Oper} {Q : Exit → Act → World → Prop} {md : Region.Mode} {S : World → Prop} {ds : List Nat} {oi : Oper} {v : Value} {fuel : Nat} {l l' : Array Bool} {a a' : Act} {w : World}
theorem pu (i N : Nat) (h : wpAnyLast P md ops Q S ds fuel l' a' w) (hi : ops[i]? = some oi := by exact rfl) (hN : oi.dst = some N := by exact rfl)
    (hl : l.setIfInBounds i true = l' := by simp only [List.setIfInBounds_toArray, List.set_cons_zero, List.set_cons_succ]; rfl) (hc : anyB md ops l l' i = true := by exact any_of HT_.out (by kernel_rfl))
    (hQ : ∀ c a w, Q (.panic c) (a.put oi.dst v) w → Q (.panic c) a w := by exact fun _ _ _ h => h)
    (hy : Yields P ops oi v a := by first | exact Or.inl ⟨by rfl, by intro w'; go_simp; with_reducible rfl⟩ | exact Or.inr ⟨by rfl, rfl⟩)
    (ha : a.put (some N) v = a' := by simp only [Act.put, List.setIfInBounds_toArray, List.set_cons_zero, List.set_cons_succ, i64_w, i32_w]; rfl) : wpAnyLast P md ops Q S ds (fuel + 1) l a w :=
  pure_ l' hi hN hc hQ hy ha h
theorem po (i N : Nat) (h : wpAnyLast P md ops Q S ds fuel l' a' w) (hi : ops[i]? = some oi := by exact rfl) (hN : oi.dst = some N := by exact rfl)
    (hl : l.setIfInBounds i true = l' := by simp only [List.setIfInBounds_toArray, List.set_cons_zero, List.set_cons_succ]; rfl) (hc : anyB md ops l l' i = true := by exact any_of HT_.out (by kernel_rfl))
    (hQ : ∀ c a w, Q (.panic c) (a.put oi.dst undef) w → Q (.panic c) a w := by exact fun _ _ _ h => h)
    (hy : Yields P ops oi undef a := by exact Or.inr ⟨by rfl, rfl⟩)
    (ha : a.put (some N) undef = a' := by simp only [Act.put, List.setIfInBounds_toArray, List.set_cons_zero, List.set_cons_succ, i64_w, i32_w]; rfl) : wpAnyLast P md ops Q S ds (fuel + 1) l a w :=
  pure_ l' hi hN hc hQ hy ha h
theorem tk (i N : Nat) (h : wpAnyLast P md ops Q S ds fuel l' a' w) (hi : ops[i]? = some oi := by exact rfl) (hN : oi.dst = some N := by exact rfl)
    (hl : l.setIfInBounds i true = l' := by simp only [List.setIfInBounds_toArray, List.set_cons_zero, List.set_cons_succ]; rfl) (hc : takeB md ops ds l l' i = true := by exact take_ofW HT_.out HW_.out (by kernel_rfl))
    (hQ : ∀ c a w, Q (.panic c) (a.put oi.dst v) w → Q (.panic c) a w := by exact fun _ _ _ h => h)
    (hy : YieldsIf P ops S oi v a := by exact Or.inl ⟨by rfl, by intro w' hS_; (repeat (rcases hS_ with ⟨h_, hS_⟩)); go_simp; with_reducible rfl⟩) (hS : S w := by exact hHeld)
    (ha : a.put (some N) v = a' := by simp only [Act.put, List.setIfInBounds_toArray, List.set_cons_zero, List.set_cons_succ, i64_w, i32_w]; rfl) : wpAnyLast P md ops Q S ds (fuel + 1) l a w :=
  take_ l' hi hN hc hQ hy hS ha h
theorem onx (i N : Nat) (h : ∀ K : Act → World → Prop, Shut (∀ a' w', S w' → (S w' → wpAnyLast P md ops Q S ds fuel l' a' w') → K a' w') → if Region.wanted oi (yielded ops a.tmps) = true then Oper.wp P oi a w K Q else K (a.put (some N) undef) w)
    (hi : ops[i]? = some oi := by exact rfl) (hN : oi.dst = some N := by exact rfl)
    (hl : l.setIfInBounds i true = l' := by simp only [List.setIfInBounds_toArray, List.set_cons_zero, List.set_cons_succ]; rfl) (hc : readyB md ops l l' i = true := by exact one_of HT_.out (by kernel_rfl)) (hd : i ∉ ds := by decide) :
    wpAnyLast P md ops Q S ds (fuel + 1) l a w := one_ l' hi hN hc hd h
theorem nm (N : Nat) (h : wpAnyLast P md ops Q S ds fuel l a' w) (ha : Act.put a (some N) v = a' := by simp only [Act.put, List.setIfInBounds_toArray, List.set_cons_zero, List.set_cons_succ, i64_w, i32_w]; rfl) : wpAnyLast P md ops Q S ds fuel l (Act.put a (some N) v) w := norm_ ha h
end
section
theorem blk_pu {w : World} {g : Nat} {t : TypeId} {cs cs' : Array Value} {i : Nat} {u : Value} (h : w.heap[g]? = some (.cells cs t (0, 0))) (e : cs.setIfInBounds i u = cs') : (w.setCell ⟨g, i, none⟩ u).heap[g]? = some (.cells cs' t (0, 0)) := blk_put h i u e
theorem qB {p : Prop} (h : p := by repeat (first | (with_reducible first | exact HB.out | apply below_alloc | apply pw_below_drewN | apply below_drew1 | refine below_set ?_ (Aside0.out (by assumption)) | refine below_set ?_ (IsS122.ge HI0.out)) | exact HB.out)) : p := h
theorem qK {p : Prop} (h : p := by (repeat (with_reducible first | exact Aside0.out (by assumption) | apply blk_drewN | apply blk_drew | apply blk_alloc | apply blk_pu | apply blk_far)); all_goals (first | rfl | exact Aside0.out (by assumption))) : p := h
theorem qD {p : Prop} [Decidable p] (h : decide p = true := by first | (with_reducible assumption) | assumption) : p := of_decide_eq_true h
theorem qR {p : Prop} (h : p := by first | rfl | (simp [errW_none, errW_some] <;> rfl) | (simp [*, errW_none, errW_some] <;> rfl)) : p := h
theorem qI {p : Prop} (h : p := by repeat (first | (with_reducible first | exact HI0.out | apply IsS122.alloc | apply IsS122.drewN | apply IsS122.drew | apply IsS122.set_0 | apply IsS122.set_1 | refine IsS122.far ?_ (Aside0.out (by assumption)) _) | exact HI0.out)) : p := h
theorem qH {p : Prop} (h : p := by repeat (first | (with_reducible first | exact HK.out | apply KeepBut.set_ | apply keep_drewN | apply keep_drew | apply keep_alloc | refine keep_far ?_ (Aside0.out (by assumption)) _) | exact HK.out)) : p := h
theorem qP {p : Prop} (h : p := by (repeat (with_reducible first | exact Aside0.out (by assumption) | apply blk_drewN | apply blk_drew | apply blk_alloc | apply blk_pu | apply blk_far)); all_goals (first | rfl | exact Aside0.out (by assumption))) : p := h
theorem geS {w W : World} {g : Nat} (hg : g = W.heap.size) (h : Below w.heap.size w W := by repeat (first | (with_reducible first | exact HB.out | apply below_alloc | apply pw_below_drewN | apply below_drew1 | refine below_set ?_ (Aside0.out (by assumption)) | refine below_set ?_ (IsS122.ge HI0.out)) | exact HB.out)) : Aside0 (w.heap.size ≤ g) := ⟨by rw [hg]; exact below_size h⟩
theorem gkS {w W : World} {g a : Nat} (hg : g = W.heap.size) (h : KeepBut w W a none := by repeat (first | (with_reducible first | exact HK.out | apply KeepBut.set_ | apply keep_drewN | apply keep_drew | apply keep_alloc | refine keep_far ?_ (Aside0.out (by assumption)) _) | exact HK.out)) : Aside0 (w.heap.size ≤ g) := ⟨by rw [hg]; exact keep_size h⟩
theorem neS (a : Nat) {W : World} {g : Nat} {o : Obj} (hg : g = W.heap.size) (h : W.heap[a]? = some o := by (repeat (with_reducible first | exact Aside0.out (by assumption) | apply blk_drewN | apply blk_drew | apply blk_alloc | apply blk_pu | apply blk_far)); all_goals (first | rfl | exact Aside0.out (by assumption))) : Aside0 (a ≠ g) := ⟨by rw [hg]; exact Nat.ne_of_lt (blk_lt h)⟩
theorem neT (a : Nat) {W : World} {g : Nat} {o : Obj} (hg : g = W.heap.size) (h : W.heap[a]? = some o := by (repeat (with_reducible first | exact Aside0.out (by assumption) | apply blk_drewN | apply blk_drew | apply blk_alloc | apply blk_pu | apply blk_far)); all_goals (first | rfl | exact Aside0.out (by assumption))) : Aside0 (g ≠ a) := ⟨by rw [hg]; exact Nat.ne_of_gt (blk_lt h)⟩
theorem niS {w0 W : World} {g a : Nat} {s : ByteArray} {i : Int} (hg : g = W.heap.size) (h : IsS122 w0 W a s i := by repeat (first | (with_reducible first | exact HI0.out | apply IsS122.alloc | apply IsS122.drewN | apply IsS122.drew | apply IsS122.set_0 | apply IsS122.set_1 | refine IsS122.far ?_ (Aside0.out (by assumption)) _) | exact HI0.out)) : Aside0 (a ≠ g) := ⟨by rw [hg]; exact Nat.ne_of_lt (IsS122.lt h)⟩
theorem niT {w0 W : World} {g a : Nat} {s : ByteArray} {i : Int} (hg : g = W.heap.size) (h : IsS122 w0 W a s i := by repeat (first | (with_reducible first | exact HI0.out | apply IsS122.alloc | apply IsS122.drewN | apply IsS122.drew | apply IsS122.set_0 | apply IsS122.set_1 | refine IsS122.far ?_ (Aside0.out (by assumption)) _) | exact HI0.out)) : Aside0 (g ≠ a) := ⟨by rw [hg]; exact Nat.ne_of_gt (IsS122.lt h)⟩
theorem bst {w W w2 : World} (hb : Below W.heap.size W w2) (h : Below w.heap.size w W := by repeat (first | (with_reducible first | exact HB.out | apply below_alloc | apply pw_below_drewN | apply below_drew1 | refine below_set ?_ (Aside0.out (by assumption)) | refine below_set ?_ (IsS122.ge HI0.out)) | exact HB.out)) : Aside0 (Below w.heap.size w w2) := ⟨below_step h hb⟩
theorem kb (g : Nat) {W w2 : World} {o : Obj} (hb : Below W.heap.size W w2) (h : W.heap[g]? = some o := by (repeat (with_reducible first | exact Aside0.out (by assumption) | apply blk_drewN | apply blk_drew | apply blk_alloc | apply blk_pu | apply blk_far)); all_goals (first | rfl | exact Aside0.out (by assumption))) : Aside0 (w2.heap[g]? = some o) := ⟨blk_below h hb⟩
theorem kp (g : Nat) (o : Obj) {W w2 : World} (hb : Below W.heap.size W w2) (h : W.heap[g]? = some o := by (repeat (with_reducible first | exact Aside0.out (by assumption) | apply blk_drewN | apply blk_drew | apply blk_alloc | apply blk_pu | apply blk_far)); all_goals (first | rfl | exact Aside0.out (by assumption))) : Aside0 (w2.heap[g]? = some o) := ⟨blk_below h hb⟩
theorem qW {p : Prop} (h : p := by first | exact ⟨rfl, _, World.drewN_drewN _ _ _⟩ | exact ⟨rfl, _, Eq.trans (World.drewN_drewN _ _ _) (congrArg (World.drewN _) (Nat.add_assoc _ _ _))⟩) : p := h
theorem qC {p : Prop} (h : p := by repeat (first | exact (Kd.C_below (Aside0.out (by assumption)) HB.out) | (with_reducible exact Aside0.out (by assumption)) | (with_reducible refine Kd.C_alloc ?_ _) | (with_reducible refine Kd.C_drewN ?_ _) | (with_reducible refine Kd.C_drew ?_))) : p := h
section
variable {P : Program} {ops : Array Oper} {rest : List Oper} {o : Oper} {a : Act} {Q : Exit → Act → World → Prop}
theorem gd (N : Nat) (_hd : o.dst = some N) {W : World} (h : wpList P ops Q (o :: rest) a W) : wpList P ops Q (o :: rest) a W := h
theorem gc (f : FuncId) {os : Array Operand} {ts : Array TypeId} (_ho : o.op = .call { callee := .value (.func f), args := os, argTypes := ts }) {W : World} (h : wpList P ops Q (o :: rest) a W) : wpList P ops Q (o :: rest) a W := h
theorem bx (N : Nat) (cs : Array Value) (t : TypeId) {W : World} (h : ∀ g, g = W.heap.size → ∀ w1, w1.heap[g]? = some (.cells cs t (0, 0)) → Below W.heap.size W w1 → wpList P ops Q rest (a.put o.dst (.pointer (some ⟨g, 0, none⟩))) w1)
    (hd : o.dst = some N := by with_reducible rfl) (hgd : o.guard = none := by rfl)
    (hr : (execOp a.eval o).run P W = .ok (.value (.pointer (some ⟨W.heap.size, 0, none⟩))) (W.alloc (.cells cs t (0, 0))) := by first | (go_simp; done) | (go_simp; rfl)) : wpList P ops Q (o :: rest) a W := box_event hgd hd hr h
theorem gl (N : Option Tmp) (args : Array Value) {f : FuncId} {fn : Func} {os : Array Operand} {ts : Array TypeId} {w : World} (hf : P.funcs[f]? = some fn)
    (h : Calls P f args w fun e w' => ∃ v, e = .returned v ∧ wpList P ops Q rest (a.put N v) w')
    (hop : o.op = .call { callee := .value (.func f), args := os, argTypes := ts } := by with_reducible rfl) (hd : o.dst = N := by rfl) (hg : o.guard = none := by rfl) (hname : (fn.name == "runtime.NumGoroutine") = false := by kernel_rfl) (hb : fn.body.isSome = true := by rfl)
    (hargs : os.map a.eval = args := by (try simp only [List.map_toArray, List.map_cons, List.map_nil]); first | done | rfl | (simp only [List.length_drop, List.length_take]; rfl)) : wpList P ops Q (o :: rest) a w := goesL_ N hd hg hf hname hb args hop hargs h
end
section
variable {α : Type} {d : Kd α} {e base : Nat} {ok : Nat → Prop} {v : Value} {xs : List α} {w0 W w2 : World}
theorem rb (h : Aside0 (d.R e w0 base ok v xs)) (hb : Below W.heap.size W w2) (k : Below w0.heap.size w0 W := by repeat (first | (with_reducible exact Below.refl _ _) | (with_reducible apply below_alloc) | (with_reducible apply pw_below_drewN) | (with_reducible apply below_drew1))) : Aside0 (d.R e w2 base ok v xs) := ⟨Kd.R_below (Kd.R_below h.out k) hb⟩
theorem cr {A : Option Addr} {n c : Nat} (h : Aside0 (d.R e w0 base ok (.slice A n c) xs)) (k : Below w0.heap.size w0 W := by repeat (first | (with_reducible exact Below.refl _ _) | (with_reducible apply below_alloc) | (with_reducible apply pw_below_drewN) | (with_reducible apply below_drew1))) : d.C W A xs.length xs := Kd.C_below (Kd.R_reads' h.out).2.2 k
end
theorem cfa (p : Addr) (u : Value) {w : World} {a : Addr} {v : Value} (h : w.cell? a = some v) (hn : a.block ≠ p.block := by first | (rw [add_block]; assumption) | (show (Addr.add _ _).block ≠ _; rw [add_block]; assumption) | assumption) : (w.setCell p u).cell? a = some v := (cell_far hn u).trans h
theorem cne {w : World} {a : Addr} {v : Value} {g b : Nat} (h : w.cell? a = some v) (k : Aside0 (w.heap.size ≤ g)) (e : a.block = b := by first | exact add_block _ _ | rfl) : b ≠ g := by
  subst e
  exact Nat.ne_of_lt (Nat.lt_of_lt_of_le (World.block_lt_of_cell? _ _ h) k.out)
theorem iD {α : Type} {c : Prop} [Decidable c] {a b r : α} (h : (if c then a else b) = r) : (decide c = true ∧ a = r) ∨ (decide c = false ∧ b = r) := by
  by_cases hc : c
  · rw [if_pos hc] at h; exact Or.inl ⟨decide_eq_true hc, h⟩
  · rw [if_neg hc] at h; exact Or.inr ⟨decide_eq_false hc, h⟩
theorem kk (g' : Nat) {g : Nat} {w w1 : World} {o : Obj} (hk : KeepBut w w1 g none) (hn : Aside0 (g' ≠ g)) (h : w.heap[g']? = some o := by (repeat (with_reducible first | exact Aside0.out (by assumption) | apply blk_drewN | apply blk_drew | apply blk_alloc | apply blk_pu | apply blk_far)); all_goals (first | rfl | exact Aside0.out (by assumption))) : Aside0 (w1.heap[g']? = some o) := ⟨KeepBut.blk hk h hn.out (by simp)⟩
theorem kkp (g' : Nat) (o : Obj) {g : Nat} {w w1 : World} (hk : KeepBut w w1 g none) (hn : Aside0 (g' ≠ g)) (h : w.heap[g']? = some o := by (repeat (with_reducible first | exact Aside0.out (by assumption) | apply blk_drewN | apply blk_drew | apply blk_alloc | apply blk_pu | apply blk_far)); all_goals (first | rfl | exact Aside0.out (by assumption))) : Aside0 (w1.heap[g']? = some o) := ⟨KeepBut.blk hk h hn.out (by simp)⟩
theorem cellsI {w0 w : World} {g : Nat} {s : ByteArray} {i : Int} (h : IsS122 w0 w g s i) : w.cell? ⟨g, 0, none⟩ = some (.string s) ∧ w.cell? ⟨g, 1, none⟩ = some (.int .i64 i) ∧ w.frozen? ⟨g, 0, none⟩ = false ∧ w.frozen? ⟨g, 1, none⟩ = false := ⟨blk_cell h.1 0, blk_cell h.1 1, blk_frozen h.1 0, blk_frozen h.1 1⟩
theorem fls (n : Nat) {l : Array Bool} (h : Array.replicate n false = l := by rewrite [← List.toArray_replicate]; simp only [List.replicate]; first | done | rfl) : Array.replicate n false = l := h
theorem cells4 {w : World} {g t : Nat} {a b c d : Value} (h : w.heap[g]? = some (.cells #[a, b, c, d] t (0, 0))) : w.cell? ⟨g, 0, none⟩ = some a ∧ w.cell? ⟨g, 1, none⟩ = some b ∧ w.cell? ⟨g, 2, none⟩ = some c ∧ w.cell? ⟨g, 3, none⟩ = some d ∧ w.frozen? ⟨g, 0, none⟩ = false ∧ w.frozen? ⟨g, 1, none⟩ = false ∧ w.frozen? ⟨g, 2, none⟩ = false ∧ w.frozen? ⟨g, 3, none⟩ = false := ⟨blk_cell h 0, blk_cell h 1, blk_cell h 2, blk_cell h 3, blk_frozen h 0, blk_frozen h 1, blk_frozen h 2, blk_frozen h 3⟩
theorem cells7 {w : World} {g t : Nat} {a b c d e f i : Value} (h : w.heap[g]? = some (.cells #[a, b, c, d, e, f, i] t (0, 0))) : w.cell? ⟨g, 0, none⟩ = some a ∧ w.cell? ⟨g, 1, none⟩ = some b ∧ w.cell? ⟨g, 2, none⟩ = some c ∧ w.cell? ⟨g, 3, none⟩ = some d ∧ w.cell? ⟨g, 4, none⟩ = some e ∧ w.cell? ⟨g, 5, none⟩ = some f ∧ w.cell? ⟨g, 6, none⟩ = some i ∧ w.frozen? ⟨g, 0, none⟩ = false ∧ w.frozen? ⟨g, 1, none⟩ = false ∧ w.frozen? ⟨g, 2, none⟩ = false ∧ w.frozen? ⟨g, 3, none⟩ = false ∧ w.frozen? ⟨g, 4, none⟩ = false ∧ w.frozen? ⟨g, 5, none⟩ = false ∧ w.frozen? ⟨g, 6, none⟩ = false := ⟨blk_cell h 0, blk_cell h 1, blk_cell h 2, blk_cell h 3, blk_cell h 4, blk_cell h 5, blk_cell h 6, blk_frozen h 0, blk_frozen h 1, blk_frozen h 2, blk_frozen h 3, blk_frozen h 4, blk_frozen h 5, blk_frozen h 6⟩
end
section
variable {P : Program} {ops : Array Oper} {Q : Exit → Act → World → Prop} {md : Region.Mode} {S : World → Prop} {ds : List Nat} {fuel : Nat} {l : Array Bool} {a a' : Act} {w : World}
end
theorem c22 {w : World} {g g' t t' : Nat} {a b c d : Value} (h : Aside0 (w.heap[g]? = some (.cells #[a, b] t (0, 0)))) (h' : Aside0 (w.heap[g']? = some (.cells #[c, d] t' (0, 0)))) : w.cell? ⟨g, 0, none⟩ = some a ∧ w.cell? ⟨g, 1, none⟩ = some b ∧ w.cell? ⟨g', 0, none⟩ = some c ∧ w.cell? ⟨g', 1, none⟩ = some d := ⟨blk_cell h.out 0, blk_cell h.out 1, blk_cell h'.out 0, blk_cell h'.out 1⟩
section
variable {P : Program} {ops : Array Oper} {rest : List Oper} {o : Oper} {a : Act} {Q : Exit → Act → World → Prop}
theorem bxx (N : Nat) (cs : Array Value) (t : TypeId) {w0 W : World} (h : ∀ g, ∀ w1, Aside0 (w1.heap[g]? = some (.cells cs t (0, 0))) → Aside0 (w0.heap.size ≤ g) → Aside0 (Below w0.heap.size w0 w1) → wpList P ops Q rest (a.put o.dst (.pointer (some ⟨g, 0, none⟩))) w1)
    (hB : Below w0.heap.size w0 W := by repeat (first | (with_reducible first | exact HB.out | apply below_alloc | apply pw_below_drewN | apply below_drew1 | refine below_set ?_ (Aside0.out (by assumption)) | refine below_set ?_ (IsS122.ge HI0.out)) | exact HB.out))
    (hd : o.dst = some N := by with_reducible rfl) (hgd : o.guard = none := by rfl)
    (hr : (execOp a.eval o).run P W = .ok (.value (.pointer (some ⟨W.heap.size, 0, none⟩))) (W.alloc (.cells cs t (0, 0))) := by first | (go_simp; done) | (go_simp; rfl)) : wpList P ops Q (o :: rest) a W :=
  box_event hgd hd hr (fun g hg w1 h1 h2 => h g w1 ⟨h1⟩ ⟨by rw [hg]; exact below_size hB⟩ ⟨below_step hB h2⟩)
end
theorem qE {p : Prop} (h : p := by first | rfl | (simp; done) | (simp [*]; done)) : p := h
theorem qN {p q : Prop} (h : p := by first | rfl | (simp; done) | (simp [*]; done)) (k : q := by repeat (first | exact Drawn0.refl _ | apply Drawn0.step)) : p ∧ q := ⟨h, k⟩
theorem rct {fn : Func} {R : Ending → World → Prop} {a : Act} {w : World} {p u : Tmp} {ty : TypeId} {fs : Array Field} (g : Nat) (t : TypeId) (cs : Array Value) (hu : Tryd.prog.underlying ty = some (.struct fs)) (hR : R (.returned (.tuple #[.agg cs, a.tmps.getD u undef])) w) (h : fn.results = #[.cell p ty, .tmp u] := by rfl)
    (hp : a.tmps.getD p undef = .pointer (some ⟨g, 0, none⟩) := by rfl) (hg : w.heap[g]? = some (.cells cs t (0, 0)) := by (repeat (with_reducible first | exact Aside0.out (by assumption) | apply blk_drewN | apply blk_drew | apply blk_alloc | apply blk_pu | apply blk_far)); all_goals (first | rfl | exact Aside0.out (by assumption)))
    (hi : (Tryd.prog.info? ty).map (·.size) = some cs.size := by kernel_rfl) (hdf : a.defers = [] := by rfl) : bodyPost Tryd.prog fn R .ret a w :=
  bodyPost_ret (results_ct h _ _ g t cs (0, 0) _ hp hg hu rfl hi) hdf hR
end Go.Proofs.YtbngfhlciebeeaaDoor.L
end
section
namespace Go.Proofs.YtbngfhlciebeeaaDoor.L
open Go.RowKit Go.Proofs.YtbngfhlciebeeaaDoorW.PrintWords Go.Proofs.YtbngfhlciebeeaaDoorW.PrintLast Go.Proofs.YtbngfhlciebeeaaDoorW.PrintMore
attribute [local go_sem] max2_int min2_int max_two min_two max_three min_three max_four min_four   -- for this text's walks alone
set_option linter.unusedVariables false
set_option linter.unusedSimpArgs false
def whirligigref22_Moves.l0 : Nat → List (S47) → Int → Int → Int → Int → List (S47) → Option ((List (S47)))
 | 0, _, _, _, _, _, _ => none
 | k + 1, x3, x4, x443000, x443001, x443002, x443003 => if x4 < (x443003.length : Int) then (if 0 ≤ x4 then (if 0 ≤ ((rd_T47 x443003 x4).f0) then (if ((rd_T47 x443003 x4).f0) < (x3.length : Int) then (whirligigref22_Moves.l0 k (x3.set (((rd_T47 x443003 x4).f0) : Int).toNat (⟨(rd_T47 x443003 x4).f0, (rd_T47 x443003 x4).f1, (rd_T47 x443003 x4).f2, (rd_T47 x443003 x4).f3⟩ : S47)) (wrap64 (x4 + 1)) x443000 x443001 x443002 x443003) else (none)) else (none)) else (none)) else (some x3)
def whirligigref22_Moves.f (k : Nat) (a0_0 : Int) (a0_1 : Int) (a0_2 : Int) (l0_3 : List (S47)) : Option ((List (S47))) := if 0 ≤ a0_2 then (if (a0_2 : Int).toNat ≤ 7036874417766 then (whirligigref22_Moves.l0 k (List.replicate (a0_2 : Int).toNat z47) 0 a0_0 a0_1 a0_2 l0_3) else (none)) else (none)
def whirligigref22_Moves.T5 : Bool × List (List Nat × List Nat) := (true, [([], []), ([], []), ([1], [1]), ([], []), ([2, 3], [2, 3]), ([4], [4]), ([5], [5]), ([], []), ([7], [7]), ([], []), ([8, 9], [8, 9]), ([10], [10]), ([0, 6, 0, 1, 2, 3, 4, 5, 6, 7, 8, 9, 10, 11], [0, 6]), ([12, 11, 0, 1, 2, 3, 4, 5, 6, 7, 8, 9, 10, 11], [11, 12])])
def whirligigref22_Moves.B5 : List Nat := [0, 0, 2, 0, 14, 30, 62, 0, 128, 0, 896, 1920, 4095, 8191]
theorem whirligigref22_Moves.tab5 : rtab .any (opsOf Tryd.f43 5) = whirligigref22_Moves.T5 := by kernel_rfl
theorem whirligigref22_Moves.bits5 : waitsOk whirligigref22_Moves.T5.2 whirligigref22_Moves.B5 = true := by kernel_rfl
set_option maxHeartbeats 8000000 in
set_option maxRecDepth 100000 in
theorem whirligigref22_Moves.calls (k : Nat) (a0_0 : Int) (a0_1 : Int) (a0_2 : Int) (A0_3 : Option Addr) (c0_3 : Nat) (l0_3 : List (S47)) (r : List (S47)) (w : World) (hr0_3 : Kd.C k47 w A0_3 l0_3.length l0_3) (hc0_3 : l0_3.length ≤ c0_3) (h : whirligigref22_Moves.f k a0_0 a0_1 a0_2 l0_3 = some r) :
  Calls Tryd.prog 43 #[.agg #[.int .i64 a0_0, .int .i64 a0_1, .int .i64 a0_2, .slice A0_3 l0_3.length c0_3]] w fun e w' => ∃ v0_ : Value, e = .returned (v0_) ∧ Kd.R k47 47 w' w.heap.size (fun _ => True) v0_ r ∧ Below w.heap.size w w' := by
 have hu65 := Tryd.underlying65
 have hu47 := Tryd.underlying47
 have HR0_3 := Aside0.mk hr0_3
 have HC0_3 := Aside0.mk hc0_3
 clear hr0_3 hc0_3
 have HB := Aside0.mk (Below.refl w.heap.size w)
 have H : (if 0 ≤ a0_2 then (if (a0_2 : Int).toNat ≤ 7036874417766 then (whirligigref22_Moves.l0 k (List.replicate (a0_2 : Int).toNat z47) 0 a0_0 a0_1 a0_2 l0_3) else (none)) else (none)) = some r := h
 clear h
 by_cases c2 : 0 ≤ a0_2
 ·rw [if_pos c2] at H
  have c2b0 := eq_true c2
  have c2b1 := decide_eq_true c2
  clear c2
  by_cases c3 : (a0_2 : Int).toNat ≤ 7036874417766
  ·rw [if_pos c3] at H
   have c3b0 := eq_true c3
   have c3b1 := decide_eq_true c3
   clear c3
   obtain ⟨y443, hy443⟩ : ∃ y_ : List (S47), y_ = (List.replicate (a0_2 : Int).toNat z47) := ⟨_, rfl⟩
   replace H : (whirligigref22_Moves.l0 k y443 0 a0_0 a0_1 a0_2 l0_3) = some r := by first | (rw [hy443]; with_reducible exact H) | (have H2_ := (Option.bind_some _ _).symm.trans H; rw [hy443]; with_reducible exact H2_) | (have H2_ := (Option.bind_some _ _).symm.trans H; with_reducible exact H2_) | with_reducible exact H | (rw [hy443]; exact H) | exact H
   have Ny443 := Aside0.mk hy443
   clear hy443
   have H' := Aside0.mk H
   clear H
   go_enter Tryd.func43, Tryd.ntmps43
   go_wp2_with (first | ((with_reducible refine gd 1 rfl ?_); refine bxx 1 #[.int .i64 a0_0, .int .i64 a0_1, .int .i64 a0_2, .slice A0_3 l0_3.length c0_3] 65 ?_; intro gb442 w4 BK442 GW442 HB; obtain ⟨_, _, _, _, _, _, _, _⟩ := cells4 BK442.out) | ((with_reducible refine gate_dst (N := 7) rfl ?_); refine Kd.R_make k47 _ 47 rfl (N := 7) rfl 63 _ _ rfl a0_2 rfl rfl Tryd.underlying63 (.agg #[(.int .i64 0), (.int .i64 0), (.string ⟨#[]⟩), (.int .i64 0)]) 40 info47 rfl (by decide) (by omega) z47 (ok := fun _ => True) (okp := fun _ => True) (k47_mkM _ _ _ z47 ) (fun _ hk => hk) trivial (qD) (Nat.le_trans (Nat.mul_le_mul_right _ (qD : a0_2.toNat ≤ 7036874417766)) (by omega)) (Below.refl _ _) (Nat.le_refl _) ?_; intro v444 w6 ho7 hb hg_ hnew_; clear hg_ hnew_; (first | rw [← Ny443.out] at ho7 | (simp only [Int.reduceToNat] at ho7; rw [← Ny443.out] at ho7)); have HO445 := Aside0.mk (Kd.R_lower ho7 (below_size qB)); replace BK442 := kb gb442 hb; replace HB := bst hb; clear hb ho7))
   go_loopg [4] k (fun kq v4 w' => ∃ (x3_1 : List (S47)) (x4_1 : Int), v4 = .int .i64 x4_1 ∧ Aside0 (whirligigref22_Moves.l0 kq x3_1 x4_1 a0_0 a0_1 a0_2 l0_3 = some r) ∧ Aside0 (kq ≤ k) ∧ Aside0 (Kd.R k47 47 w' w.heap.size (fun _ => True) v444 x3_1) ∧ Aside0 (w'.heap[gb442]? = some (.cells #[.int .i64 a0_0, .int .i64 a0_1, .int .i64 a0_2, (.slice A0_3 l0_3.length c0_3)] 65 (0, 0))) ∧ Aside0 (Below w.heap.size w w'))
   case atStart => exact ⟨(y443), (0), qE, H', ⟨Nat.le_refl _⟩, ⟨by (with_reducible repeat (first | apply Kd.R_alloc | apply Kd.R_drewN | apply Kd.R_drew)); exact HO445.out⟩, ⟨qK⟩, ⟨qB⟩⟩
   case round =>
    clear H'
    try clear p2
    obtain ⟨x3_1, x4_1, rfl, HA, HK1, HO_3, BK442, HB⟩ := hrel
    cases gk with
    | zero => exact absurd HA.out (by simp [whirligigref22_Moves.l0])
    | succ k1 =>
     have H := HA.out; clear HA; simp only [whirligigref22_Moves.l0] at H; replace H := iD H
     rcases H with ⟨c8b0, H⟩ | ⟨c8b0, H⟩
     ·by_cases c9 : 0 ≤ x4_1
      ·rw [if_pos c9] at H; have c9b0 := decide_eq_true c9; clear c9; replace H := iD H
       rcases H with ⟨c10b0, H⟩ | ⟨c10b0, H⟩
       ·by_cases c11 : ((rd_T47 l0_3 x4_1).f0) < (x3_1.length : Int)
        ·rw [if_pos c11] at H; have c11b0 := decide_eq_true c11; clear c11; obtain ⟨y448, hy448⟩ : ∃ y_ : List (S47), y_ = (x3_1.set (((rd_T47 l0_3 x4_1).f0) : Int).toNat (⟨(rd_T47 l0_3 x4_1).f0, (rd_T47 l0_3 x4_1).f1, (rd_T47 l0_3 x4_1).f2, (rd_T47 l0_3 x4_1).f3⟩ : S47)) := ⟨_, rfl⟩; replace H : (whirligigref22_Moves.l0 k1 y448 (wrap64 (x4_1 + 1)) a0_0 a0_1 a0_2 l0_3) = some r := by first | (rw [hy448]; with_reducible exact H) | (have H2_ := (Option.bind_some _ _).symm.trans H; rw [hy448]; with_reducible exact H2_) | (have H2_ := (Option.bind_some _ _).symm.trans H; with_reducible exact H2_) | with_reducible exact H | (rw [hy448]; exact H) | exact H
         have Ny448 := Aside0.mk hy448; clear hy448; have H' := Aside0.mk H; clear H; obtain ⟨_, _, _, _, _, _, _, _⟩ := cells4 BK442.out
         try go_wp2
         replace BK442 := Aside0.mk (blk_drew BK442.out); replace HO_3 := Aside0.mk (Kd.R_drew HO_3.out); replace HB := Aside0.mk (below_drew1 HB.out); have p446 : 0 ≤ (x4_1 : Int) := qD; have q446 : x4_1 < (l0_3.length : Int) := qD; obtain ⟨ad446, e446, hx446_0, hx446_1, hx446_2, hx446_3⟩ := at_T47 HR0_3.out x4_1 p446 q446; have hw446_3 := hx446_3; have hw446_2 := hx446_2; have hw446_1 := hx446_1; have hw446_0 := hx446_0; cases e446; replace hx446_0 := pw_cell_below HB.out hx446_0; replace hx446_1 := pw_cell_below HB.out hx446_1; replace hx446_2 := pw_cell_below HB.out hx446_2; replace hx446_3 := pw_cell_below HB.out hx446_3; replace p446 := eq_true p446; replace q446 := eq_true q446; have p447 : 0 ≤ (x4_1 : Int) := qD; have q447 : x4_1 < (l0_3.length : Int) := qD; obtain ⟨ad447, e447, hx447_0, hx447_1, hx447_2, hx447_3⟩ := at_T47 HR0_3.out x4_1 p447 q447; have hw447_3 := hx447_3; have hw447_2 := hx447_2; have hw447_1 := hx447_1; have hw447_0 := hx447_0; obtain rfl : ad446 = ad447 := (by injection e447); replace hx447_0 := pw_cell_below HB.out hx447_0; replace hx447_1 := pw_cell_below HB.out hx447_1; replace hx447_2 := pw_cell_below HB.out hx447_2; replace hx447_3 := pw_cell_below HB.out hx447_3; replace p447 := eq_true p447; replace q447 := eq_true q447; have p12 : 0 ≤ (((rd_T47 l0_3 x4_1).f0) : Int) := qD; have q12 : (((rd_T47 l0_3 x4_1).f0) : Int) < ((x3_1.length : Int) : Int) := qD; obtain ⟨go12, co12, eo12, gb12, gl12, cl12, HG12⟩ := Kd.R_form HO_3.out (by omega)
         (first | cases eo12 | (injection eo12 with ea_ en_ ec_; (first | subst ea_ | (injection ea_ with ea_; subst ea_)); subst ec_; clear en_)); have GB12 := Aside0.mk gb12; have GG12 := Aside0.mk HG12; clear gb12 gl12 HG12; obtain ⟨ce12, hcl12, hM12, hcc12, hfr12⟩ := Kd.R_elem HO_3.out z47 (((rd_T47 l0_3 x4_1).f0) : Int) p12 q12; obtain rfl := k47_openM hM12; have hx12_0 : World.cell? _ ⟨go12, (((rd_T47 l0_3 x4_1).f0) : Int).toNat * 4, none⟩ = some (.int .i64 ((rd_T47 x3_1 ((rd_T47 l0_3 x4_1).f0)).f0)) := hcc12 0 _ rfl; have hx12_1 : World.cell? _ ⟨go12, (((rd_T47 l0_3 x4_1).f0) : Int).toNat * 4 + 1, none⟩ = some (.int .i64 ((rd_T47 x3_1 ((rd_T47 l0_3 x4_1).f0)).f1)) := hcc12 1 _ rfl; have hx12_2 : World.cell? _ ⟨go12, (((rd_T47 l0_3 x4_1).f0) : Int).toNat * 4 + 2, none⟩ = some (.string ((rd_T47 x3_1 ((rd_T47 l0_3 x4_1).f0)).f2)) := hcc12 2 _ rfl; have hx12_3 : World.cell? _ ⟨go12, (((rd_T47 l0_3 x4_1).f0) : Int).toNat * 4 + 3, none⟩ = some (.int .i64 ((rd_T47 x3_1 ((rd_T47 l0_3 x4_1).f0)).f3)) := hcc12 3 _ rfl; have hf12_0 : World.frozen? _ ⟨go12, (((rd_T47 l0_3 x4_1).f0) : Int).toNat * 4, none⟩ = false := hfr12 0; have hf12_1 : World.frozen? _ ⟨go12, (((rd_T47 l0_3 x4_1).f0) : Int).toNat * 4 + 1, none⟩ = false := hfr12 1; have hf12_2 : World.frozen? _ ⟨go12, (((rd_T47 l0_3 x4_1).f0) : Int).toNat * 4 + 2, none⟩ = false := hfr12 2; have hf12_3 : World.frozen? _ ⟨go12, (((rd_T47 l0_3 x4_1).f0) : Int).toNat * 4 + 3, none⟩ = false := hfr12 3; clear hcl12 hcc12 hfr12 hM12
         replace p12 := eq_true p12; replace q12 := eq_true q12; obtain ⟨ce15, hcl15, hM15, hcc15, hfr15⟩ := Kd.R_elem HO_3.out z47 (((rd_T47 l0_3 x4_1).f0) : Int) (qD) (by have h_ : (((rd_T47 l0_3 x4_1).f0) : Int) < ((x3_1.length : Int) : Int) := qD; first | exact h_ | (have e_ := (Kd.R_reads' HO_3.out).1; omega) | simpa using h_); obtain rfl := k47_openM hM15; have HP15 := (Kd.R_seg HO_3.out (((rd_T47 l0_3 x4_1).f0) : Int) (qD) (by have h_ : (((rd_T47 l0_3 x4_1).f0) : Int) < ((x3_1.length : Int) : Int) := qD; first | exact h_ | (have e_ := (Kd.R_reads' HO_3.out).1; omega) | simpa using h_) (seg := [.int .i64 ((rd_T47 l0_3 x4_1).f0), .int .i64 ((rd_T47 l0_3 x4_1).f1), .string ((rd_T47 l0_3 x4_1).f2), .int .i64 ((rd_T47 l0_3 x4_1).f3)]) (j := 0) hcl15 hcc15 (show 4 ≤ 4 from by decide) (x' := (⟨(rd_T47 l0_3 x4_1).f0, (rd_T47 l0_3 x4_1).f1, (rd_T47 l0_3 x4_1).f2, (rd_T47 l0_3 x4_1).f3⟩ : S47)) (k47_mkM _ _ _ (⟨(rd_T47 l0_3 x4_1).f0, (rd_T47 l0_3 x4_1).f1, (rd_T47 l0_3 x4_1).f2, (rd_T47 l0_3 x4_1).f3⟩ : S47) ) (fun _ hk => hk)).1; rw [← Ny448.out] at HP15; have HQ15 := Aside0.mk HP15; clear hcl15 hcc15 hfr15 hM15 HP15
         refine start_ (n := 14) (S := fun w' => w'.cell? ⟨gb442, 0, none⟩ = some (.int .i64 a0_0) ∧ w'.cell? ⟨gb442, 1, none⟩ = some (.int .i64 a0_1) ∧ w'.cell? ⟨gb442, 2, none⟩ = some (.int .i64 a0_2) ∧ w'.cell? ⟨gb442, 3, none⟩ = some (.slice (some ad446) l0_3.length c0_3) ∧ w'.cell? (ad446.add ((x4_1).toNat * 4)) = some (.int .i64 ((rd_T47 l0_3 x4_1).f0)) ∧ w'.cell? ⟨(ad446.add ((x4_1).toNat * 4)).block, (ad446.add ((x4_1).toNat * 4)).off + 1, none⟩ = some (.int .i64 ((rd_T47 l0_3 x4_1).f1)) ∧ w'.cell? ⟨(ad446.add ((x4_1).toNat * 4)).block, (ad446.add ((x4_1).toNat * 4)).off + 2, none⟩ = some (.string ((rd_T47 l0_3 x4_1).f2)) ∧ w'.cell? ⟨(ad446.add ((x4_1).toNat * 4)).block, (ad446.add ((x4_1).toNat * 4)).off + 3, none⟩ = some (.int .i64 ((rd_T47 l0_3 x4_1).f3)) ∧ w'.cell? (ad446.add ((x4_1).toNat * 4)) = some (.int .i64 ((rd_T47 l0_3 x4_1).f0)) ∧ w'.cell? ⟨(ad446.add ((x4_1).toNat * 4)).block, (ad446.add ((x4_1).toNat * 4)).off + 1, none⟩ = some (.int .i64 ((rd_T47 l0_3 x4_1).f1)) ∧ w'.cell? ⟨(ad446.add ((x4_1).toNat * 4)).block, (ad446.add ((x4_1).toNat * 4)).off + 2, none⟩ = some (.string ((rd_T47 l0_3 x4_1).f2)) ∧ w'.cell? ⟨(ad446.add ((x4_1).toNat * 4)).block, (ad446.add ((x4_1).toNat * 4)).off + 3, none⟩ = some (.int .i64 ((rd_T47 l0_3 x4_1).f3))) (ds := [13]) _ (by kernel_rfl) rfl (fls 14) ⟨(blk_cell BK442.out 0).trans rfl, (blk_cell BK442.out 1).trans rfl, (blk_cell BK442.out 2).trans rfl, (blk_cell BK442.out 3).trans rfl, ((HB.out.cell (World.block_lt_of_cell? w _ hw446_0)).trans hw446_0), ((HB.out.cell (World.block_lt_of_cell? w _ hw446_1)).trans hw446_1), ((HB.out.cell (World.block_lt_of_cell? w _ hw446_2)).trans hw446_2), ((HB.out.cell (World.block_lt_of_cell? w _ hw446_3)).trans hw446_3), ((HB.out.cell (World.block_lt_of_cell? w _ hw447_0)).trans hw447_0), ((HB.out.cell (World.block_lt_of_cell? w _ hw447_1)).trans hw447_1), ((HB.out.cell (World.block_lt_of_cell? w _ hw447_2)).trans hw447_2), ((HB.out.cell (World.block_lt_of_cell? w _ hw447_3)).trans hw447_3)⟩ (fun hHeld => ?_); refine with_tabW whirligigref22_Moves.tab5 whirligigref22_Moves.bits5 (fun HT_ HW_ => ?_)
         generalize wr.drew = w14 at HO_3 BK442 HB GG12 HQ15 hf12_0 hf12_1 hf12_2 hf12_3 hx12_0 hx12_1 hx12_2 hx12_3 hx446_0 hx446_1 hx446_2 hx446_3 hx447_0 hx447_1 hx447_2 hx447_3 hHeld ⊢
         refine pu 0 15 ?_; refine pu 1 16 ?_; refine pu 3 18 ?_; refine pu 7 22 ?_; refine pu 9 24 ?_; refine tk 2 17 ?_; refine pu 4 19 ?_; refine pu 5 20 ?_; refine tk 6 21 ?_; refine tk 8 23 ?_; refine pu 10 25 ?_; refine tk 11 26 ?_; refine pu 12 27 ?_; refine last_ (i := 13) (N := none) #[true, true, true, true, true, true, true, true, true, true, true, true, true, true] rfl rfl (one_of HT_.out (by kernel_rfl)) (by decide) (fun K hK => ?_); refine skip_ (w1 := ?_) (by rfl) rfl ?_ ?_; rotate_left
         ·go_simp
          rfl
         refine hK.out _ _ ?_; clear hK K; refine done_ (done_of HT_.out (by kernel_rfl)) ?_
         try go_wp2
         go_roundg k1
         case measure => have := HK1.out; omega
         case rel => exact ⟨(y448), (wrap64 (x4_1 + 1)), qE, H', ⟨by have := HK1.out; omega⟩, ⟨by (with_reducible repeat (first | apply Kd.R_alloc | apply Kd.R_drewN | apply Kd.R_drew)); exact HQ15.out⟩, ⟨by (with_reducible repeat (first | refine blk_drewN ?_ _ | refine blk_drew ?_ | refine blk_alloc ?_ _)); refine blk_far ?_ (by have h_ := Kd.R_ne HO_3.out BK442.out (by decide); intro e_; exact h_ (by rw [e_]; rfl)) _; (with_reducible repeat (first | refine blk_drewN ?_ _ | refine blk_drew ?_ | refine blk_alloc ?_ _)); refine blk_far ?_ (by have h_ := Kd.R_ne HO_3.out BK442.out (by decide); intro e_; exact h_ (by rw [e_]; rfl)) _; (with_reducible repeat (first | refine blk_drewN ?_ _ | refine blk_drew ?_ | refine blk_alloc ?_ _)); refine blk_far ?_ (by have h_ := Kd.R_ne HO_3.out BK442.out (by decide); intro e_; exact h_ (by rw [e_]; rfl)) _; (with_reducible repeat (first | refine blk_drewN ?_ _ | refine blk_drew ?_ | refine blk_alloc ?_ _)); refine blk_far ?_ (by have h_ := Kd.R_ne HO_3.out BK442.out (by decide); intro e_; exact h_ (by rw [e_]; rfl)) _; (with_reducible repeat (first | refine blk_drewN ?_ _ | refine blk_drew ?_ | refine blk_alloc ?_ _)); exact BK442.out⟩, ⟨qB⟩⟩
        rw [if_neg c11] at H; exact absurd H (by simp)
       exact absurd H (by simp)
      rw [if_neg c9] at H; exact absurd H (by simp)
     obtain rfl := Option.some.inj H; obtain ⟨_, _, _, _, _, _, _, _⟩ := cells4 BK442.out
     go_wp2
     go_ret; exact ⟨_, qR, by (with_reducible repeat (first | apply Kd.R_alloc | apply Kd.R_drewN | apply Kd.R_drew)); exact HO_3.out, qB⟩
  rw [if_neg c3] at H
  exact absurd H (by simp)
 rw [if_neg c2] at H
 exact absurd H (by simp)
theorem eqA47 (d : Nat) (w : World) (x0 y0 : Int) (x1 y1 : Int) (x2 y2 : ByteArray) (x3 y3 : Int) :
    (Op.equalIn (d + 2) 47 (.agg #[.int .i64 x0, .int .i64 x1, .string x2, .int .i64 x3]) (.agg #[.int .i64 y0, .int .i64 y1, .string y2, .int .i64 y3])).run Tryd.prog w = .ok (x0 == y0 && (x1 == y1 && (x2.toList == y2.toList && (x3 == y3)))) w := by
  refine eqA_of Tryd.underlying47 (by kernel_rfl) ?_
  refine eqf_cons (by rfl) (by go_simp; rfl) (by go_simp; rfl) (by go_simp) ?_
  refine eqf_cons (by rfl) (by go_simp; rfl) (by go_simp; rfl) (by go_simp) ?_
  refine eqf_cons (by rfl) (by go_simp; rfl) (by go_simp; rfl) (by go_simp) ?_
  exact eqf_last (by rfl) (by go_simp; rfl) (by go_simp; rfl) (by go_simp)
end Go.Proofs.YtbngfhlciebeeaaDoor.L
end
section
namespace Go.Proofs.YtbngfhlciebeeaaDoor.L
open Go.RowKit Go.Proofs.YtbngfhlciebeeaaDoorW.PrintWords Go.Proofs.YtbngfhlciebeeaaDoorW.PrintLast Go.Proofs.YtbngfhlciebeeaaDoorW.PrintMore
attribute [local go_sem] max2_int min2_int max_two min_two max_three min_three max_four min_four   -- for this text's walks alone
set_option linter.unusedVariables false
set_option linter.unusedSimpArgs false
attribute [local go_sem high] eqA47
def whirligigref22_Common.l0 : Nat → List (S47) → List (S47) → Int → Option (Int)
 | 0, _, _, _ => none
 | k + 1, x5, x6, x7 => if x7 < (x5.length : Int) then (if x7 < (x6.length : Int) then (if 0 ≤ x7 then (if (((rd_T47 x5 x7).f0) == ((rd_T47 x6 x7).f0) && (((rd_T47 x5 x7).f1) == ((rd_T47 x6 x7).f1) && ((((rd_T47 x5 x7).f2).toList) == (((rd_T47 x6 x7).f2).toList) && (((rd_T47 x5 x7).f3) == ((rd_T47 x6 x7).f3))))) = true then (whirligigref22_Common.l0 k x5 x6 (wrap64 (x7 + 1))) else (some x7)) else (none)) else (some x7)) else (some x7)
def whirligigref22_Common.f (k : Nat) (a0_0 : Int) (a0_1 : Int) (a0_2 : Int) (l0_3 : List (S47)) (a1_0 : Int) (a1_1 : Int) (a1_2 : Int) (l1_3 : List (S47)) : Option (Int) := (whirligigref22_Moves.f k a0_0 a0_1 a0_2 l0_3).bind fun t451 => ((whirligigref22_Moves.f k a1_0 a1_1 a1_2 l1_3).bind fun t454 => (whirligigref22_Common.l0 k t451 t454 0))
set_option maxHeartbeats 8000000 in
set_option maxRecDepth 100000 in
theorem whirligigref22_Common.calls (k : Nat) (a0_0 : Int) (a0_1 : Int) (a0_2 : Int) (A0_3 : Option Addr) (c0_3 : Nat) (l0_3 : List (S47)) (a1_0 : Int) (a1_1 : Int) (a1_2 : Int) (A1_3 : Option Addr) (c1_3 : Nat) (l1_3 : List (S47)) (r : Int) (w : World) (hr0_3 : Kd.C k47 w A0_3 l0_3.length l0_3) (hc0_3 : l0_3.length ≤ c0_3) (hr1_3 : Kd.C k47 w A1_3 l1_3.length l1_3) (hc1_3 : l1_3.length ≤ c1_3) (h : whirligigref22_Common.f k a0_0 a0_1 a0_2 l0_3 a1_0 a1_1 a1_2 l1_3 = some r) :
  Calls Tryd.prog 45 #[.agg #[.int .i64 a0_0, .int .i64 a0_1, .int .i64 a0_2, .slice A0_3 l0_3.length c0_3], .agg #[.int .i64 a1_0, .int .i64 a1_1, .int .i64 a1_2, .slice A1_3 l1_3.length c1_3]] w fun e w' => e = .returned (.int .i64 r) ∧ Below w.heap.size w w' := by
 have hu65 := Tryd.underlying65
 have hu47 := Tryd.underlying47
 have HR0_3 := Aside0.mk hr0_3
 have HC0_3 := Aside0.mk hc0_3
 clear hr0_3 hc0_3
 have HR1_3 := Aside0.mk hr1_3
 have HC1_3 := Aside0.mk hc1_3
 clear hr1_3 hc1_3
 have HB := Aside0.mk (Below.refl w.heap.size w)
 have H : ((whirligigref22_Moves.f k a0_0 a0_1 a0_2 l0_3).bind fun t451 => ((whirligigref22_Moves.f k a1_0 a1_1 a1_2 l1_3).bind fun t454 => (whirligigref22_Common.l0 k t451 t454 0))) = some r := h
 clear h
 replace H := Option.bind_eq_some_iff.mp H
 obtain ⟨t451, A30, H⟩ := H
 (try dsimp -simprocs only at H)
 have A3 := Aside0.mk A30
 clear A30
 replace H := Option.bind_eq_some_iff.mp H
 obtain ⟨t454, A40, H⟩ := H
 (try dsimp -simprocs only at H)
 have A4 := Aside0.mk A40
 clear A40
 have H' := Aside0.mk H
 clear H
 go_enter Tryd.func45, Tryd.ntmps45
 go_wp2_with (first | ((with_reducible refine gate_dst (N := 2) rfl ?_); (try (refine gate_guard (by rfl) ?_; dsimp only)); refine box_event ?hg (N := 2) ?hd (cs := #[.int .i64 a0_0, .int .i64 a0_1, .int .i64 a0_2, .slice A0_3 l0_3.length c0_3]) (t := 65) ?hr ?_; (case hd => rfl); (case hg => rfl); (case hr => first | (go_simp; done) | (go_simp; rfl)); intro gb449 hg w5 hbox hb; have BK449 := Aside0.mk (hbox); have GW449 := geS hg; have GE449 := geS hg; replace HB := bst hb; clear hb hbox hg) | ((with_reducible refine gate_dst (N := 3) rfl ?_); (try (refine gate_guard (by rfl) ?_; dsimp only)); refine box_event ?hg (N := 3) ?hd (cs := #[.int .i64 a1_0, .int .i64 a1_1, .int .i64 a1_2, .slice A1_3 l1_3.length c1_3]) (t := 65) ?hr ?_; (case hd => rfl); (case hg => rfl); (case hr => first | (go_simp; done) | (go_simp; rfl)); intro gb450 hg w6 hbox hb; have BK450 := Aside0.mk (hbox); have GW450 := geS hg; have GE450 := geS hg; have NB449_450 := neS gb449 hg; have NB450_449 := neT gb449 hg; replace BK449 := kb gb449 hb; replace HB := bst hb; clear hb hbox hg; have := NB449_450.out; have := NB450_449.out; obtain ⟨_, _, _, _, _, _, _, _⟩ := cells4 BK449.out) | (go_at_call 43; (with_reducible refine (whirligigref22_Moves.calls k a0_0 a0_1 a0_2 _ _ l0_3 t451 _ ?side1 ?side2 A3.out).mono ?_); (case side1 => exact qC); (case side2 => exact HC0_3.out); rintro e w9 ⟨v452, rfl, ho0, hb⟩; have HO453 := Aside0.mk (Kd.R_lower ho0 (below_size qB)); replace BK449 := kb gb449 hb; replace BK450 := kb gb450 hb; replace HB := bst hb; (try clear hb); (try clear ho0); obtain ⟨_, _, _, _, _, _, _, _⟩ := cells4 BK450.out) | (go_at_call 43; (with_reducible refine (whirligigref22_Moves.calls k a1_0 a1_1 a1_2 _ _ l1_3 t454 _ ?side1 ?side2 A4.out).mono ?_); (case side1 => exact qC); (case side2 => exact HC1_3.out); rintro e w11 ⟨v455, rfl, ho0, hb⟩; have n0_ := Aside0.mk (Kd.R_elder' (by (with_reducible repeat (first | apply Kd.R_alloc | apply Kd.R_drewN | apply Kd.R_drew)); exact HO453.out) (Kd.R_base ho0) hb); have n1_ := Aside0.mk (Kd.R_lower (Kd.R_new' ho0 (Kd.R_lt (by (with_reducible repeat (first | apply Kd.R_alloc | apply Kd.R_drewN | apply Kd.R_drew)); exact HO453.out))) (below_size qB)); have n2_ := kb gb449 hb; have n3_ := kb gb450 hb; have n4_ := bst hb; clear HO453; clear BK449; clear BK450; clear HB; have HO453 := n0_; have HO456 := n1_; have BK449 := n2_; have BK450 := n3_; have HB := n4_; clear n0_ n1_ n2_ n3_ n4_; (try clear hb); (try clear ho0)))
 repeat (go_quiet (first | ((with_reducible refine gate_dst (N := 2) rfl ?_); (try (refine gate_guard (by rfl) ?_; dsimp only)); refine box_event ?hg (N := 2) ?hd (cs := #[.int .i64 a0_0, .int .i64 a0_1, .int .i64 a0_2, .slice A0_3 l0_3.length c0_3]) (t := 65) ?hr ?_; (case hd => rfl); (case hg => rfl); (case hr => first | (go_simp; done) | (go_simp; rfl)); intro gb449 hg w5 hbox hb; have BK449 := Aside0.mk (hbox); have GW449 := geS hg; have GE449 := geS hg; replace HB := bst hb; clear hb hbox hg) | ((with_reducible refine gate_dst (N := 3) rfl ?_); (try (refine gate_guard (by rfl) ?_; dsimp only)); refine box_event ?hg (N := 3) ?hd (cs := #[.int .i64 a1_0, .int .i64 a1_1, .int .i64 a1_2, .slice A1_3 l1_3.length c1_3]) (t := 65) ?hr ?_; (case hd => rfl); (case hg => rfl); (case hr => first | (go_simp; done) | (go_simp; rfl)); intro gb450 hg w6 hbox hb; have BK450 := Aside0.mk (hbox); have GW450 := geS hg; have GE450 := geS hg; have NB449_450 := neS gb449 hg; have NB450_449 := neT gb449 hg; replace BK449 := kb gb449 hb; replace HB := bst hb; clear hb hbox hg; have := NB449_450.out; have := NB450_449.out; obtain ⟨_, _, _, _, _, _, _, _⟩ := cells4 BK449.out) | (go_at_call 43; (with_reducible refine (whirligigref22_Moves.calls k a0_0 a0_1 a0_2 _ _ l0_3 t451 _ ?side1 ?side2 A3.out).mono ?_); (case side1 => exact qC); (case side2 => exact HC0_3.out); rintro e w9 ⟨v452, rfl, ho0, hb⟩; have HO453 := Aside0.mk (Kd.R_lower ho0 (below_size qB)); replace BK449 := kb gb449 hb; replace BK450 := kb gb450 hb; replace HB := bst hb; (try clear hb); (try clear ho0); obtain ⟨_, _, _, _, _, _, _, _⟩ := cells4 BK450.out) | (go_at_call 43; (with_reducible refine (whirligigref22_Moves.calls k a1_0 a1_1 a1_2 _ _ l1_3 t454 _ ?side1 ?side2 A4.out).mono ?_); (case side1 => exact qC); (case side2 => exact HC1_3.out); rintro e w11 ⟨v455, rfl, ho0, hb⟩; have n0_ := Aside0.mk (Kd.R_elder' (by (with_reducible repeat (first | apply Kd.R_alloc | apply Kd.R_drewN | apply Kd.R_drew)); exact HO453.out) (Kd.R_base ho0) hb); have n1_ := Aside0.mk (Kd.R_lower (Kd.R_new' ho0 (Kd.R_lt (by (with_reducible repeat (first | apply Kd.R_alloc | apply Kd.R_drewN | apply Kd.R_drew)); exact HO453.out))) (below_size qB)); have n2_ := kb gb449 hb; have n3_ := kb gb450 hb; have n4_ := bst hb; clear HO453; clear BK449; clear BK450; clear HB; have HO453 := n0_; have HO456 := n1_; have BK449 := n2_; have BK450 := n3_; have HB := n4_; clear n0_ n1_ n2_ n3_ n4_; (try clear hb); (try clear ho0))); try go_wp2_with (first | ((with_reducible refine gate_dst (N := 2) rfl ?_); (try (refine gate_guard (by rfl) ?_; dsimp only)); refine box_event ?hg (N := 2) ?hd (cs := #[.int .i64 a0_0, .int .i64 a0_1, .int .i64 a0_2, .slice A0_3 l0_3.length c0_3]) (t := 65) ?hr ?_; (case hd => rfl); (case hg => rfl); (case hr => first | (go_simp; done) | (go_simp; rfl)); intro gb449 hg w5 hbox hb; have BK449 := Aside0.mk (hbox); have GW449 := geS hg; have GE449 := geS hg; replace HB := bst hb; clear hb hbox hg) | ((with_reducible refine gate_dst (N := 3) rfl ?_); (try (refine gate_guard (by rfl) ?_; dsimp only)); refine box_event ?hg (N := 3) ?hd (cs := #[.int .i64 a1_0, .int .i64 a1_1, .int .i64 a1_2, .slice A1_3 l1_3.length c1_3]) (t := 65) ?hr ?_; (case hd => rfl); (case hg => rfl); (case hr => first | (go_simp; done) | (go_simp; rfl)); intro gb450 hg w6 hbox hb; have BK450 := Aside0.mk (hbox); have GW450 := geS hg; have GE450 := geS hg; have NB449_450 := neS gb449 hg; have NB450_449 := neT gb449 hg; replace BK449 := kb gb449 hb; replace HB := bst hb; clear hb hbox hg; have := NB449_450.out; have := NB450_449.out; obtain ⟨_, _, _, _, _, _, _, _⟩ := cells4 BK449.out) | (go_at_call 43; (with_reducible refine (whirligigref22_Moves.calls k a0_0 a0_1 a0_2 _ _ l0_3 t451 _ ?side1 ?side2 A3.out).mono ?_); (case side1 => exact qC); (case side2 => exact HC0_3.out); rintro e w9 ⟨v452, rfl, ho0, hb⟩; have HO453 := Aside0.mk (Kd.R_lower ho0 (below_size qB)); replace BK449 := kb gb449 hb; replace BK450 := kb gb450 hb; replace HB := bst hb; (try clear hb); (try clear ho0); obtain ⟨_, _, _, _, _, _, _, _⟩ := cells4 BK450.out) | (go_at_call 43; (with_reducible refine (whirligigref22_Moves.calls k a1_0 a1_1 a1_2 _ _ l1_3 t454 _ ?side1 ?side2 A4.out).mono ?_); (case side1 => exact qC); (case side2 => exact HC1_3.out); rintro e w11 ⟨v455, rfl, ho0, hb⟩; have n0_ := Aside0.mk (Kd.R_elder' (by (with_reducible repeat (first | apply Kd.R_alloc | apply Kd.R_drewN | apply Kd.R_drew)); exact HO453.out) (Kd.R_base ho0) hb); have n1_ := Aside0.mk (Kd.R_lower (Kd.R_new' ho0 (Kd.R_lt (by (with_reducible repeat (first | apply Kd.R_alloc | apply Kd.R_drewN | apply Kd.R_drew)); exact HO453.out))) (below_size qB)); have n2_ := kb gb449 hb; have n3_ := kb gb450 hb; have n4_ := bst hb; clear HO453; clear BK449; clear BK450; clear HB; have HO453 := n0_; have HO456 := n1_; have BK449 := n2_; have BK450 := n3_; have HB := n4_; clear n0_ n1_ n2_ n3_ n4_; (try clear hb); (try clear ho0))))
 go_loopg [7] k (fun kq v7 w' => ∃ (x7_1 : Int), v7 = .int .i64 x7_1 ∧ Aside0 (whirligigref22_Common.l0 kq t451 t454 x7_1 = some r) ∧ Aside0 (kq ≤ k) ∧ Aside0 (Kd.R k47 47 w' w.heap.size (fun k_ => some k_ ≠ (v455 : Value).ownBlock) v452 t451) ∧ Aside0 (Kd.R k47 47 w' w.heap.size (fun k_ => some k_ ≠ (v452 : Value).ownBlock) v455 t454) ∧ Aside0 (w'.heap[gb449]? = some (.cells #[.int .i64 a0_0, .int .i64 a0_1, .int .i64 a0_2, (.slice A0_3 l0_3.length c0_3)] 65 (0, 0))) ∧ Aside0 (w'.heap[gb450]? = some (.cells #[.int .i64 a1_0, .int .i64 a1_1, .int .i64 a1_2, (.slice A1_3 l1_3.length c1_3)] 65 (0, 0))) ∧ Aside0 (Below w.heap.size w w'))
 case atStart => exact ⟨(0), qE, H', ⟨Nat.le_refl _⟩, ⟨by (with_reducible repeat (first | apply Kd.R_alloc | apply Kd.R_drewN | apply Kd.R_drew)); exact Kd.R_mono HO453.out (fun _ hk => hk.2)⟩, ⟨by (with_reducible repeat (first | apply Kd.R_alloc | apply Kd.R_drewN | apply Kd.R_drew)); exact Kd.R_mono HO456.out (fun _ hk => hk.2)⟩, ⟨qK⟩, ⟨qK⟩, ⟨qB⟩⟩
 case round =>
  clear H'
  try clear p2
  obtain ⟨x7_1, rfl, HA, HK1, HO_5, HO_6, BK449, BK450, HB⟩ := hrel
  cases gk with
  | zero => exact absurd HA.out (by simp [whirligigref22_Common.l0])
  | succ k1 =>
   have H := HA.out
   clear HA
   simp only [whirligigref22_Common.l0] at H
   replace H := iD H
   rcases H with ⟨c12b0, H⟩ | ⟨c12b0, H⟩
   ·by_cases c13 : x7_1 < (t454.length : Int)
    ·rw [if_pos c13] at H; have c13b0 := decide_eq_true c13; clear c13; replace H := iD H
     rcases H with ⟨c14b0, H⟩ | ⟨c14b0, H⟩
     ·by_cases c15 : (((rd_T47 t451 x7_1).f0) == ((rd_T47 t454 x7_1).f0) && (((rd_T47 t451 x7_1).f1) == ((rd_T47 t454 x7_1).f1) && ((((rd_T47 t451 x7_1).f2).toList) == (((rd_T47 t454 x7_1).f2).toList) && (((rd_T47 t451 x7_1).f3) == ((rd_T47 t454 x7_1).f3))))) = true
      ·rw [if_pos c15] at H; have c15b0 : (((rd_T47 t451 x7_1).f0) == ((rd_T47 t454 x7_1).f0) && (((rd_T47 t451 x7_1).f1) == ((rd_T47 t454 x7_1).f1) && ((((rd_T47 t451 x7_1).f2).toList) == (((rd_T47 t454 x7_1).f2).toList) && (((rd_T47 t451 x7_1).f3) == ((rd_T47 t454 x7_1).f3))))) = true := c15; (try (have c15b1 : decide (((rd_T47 t451 x7_1).f0) = ((rd_T47 t454 x7_1).f0) && (((rd_T47 t451 x7_1).f1) == ((rd_T47 t454 x7_1).f1) && ((((rd_T47 t451 x7_1).f2).toList) == (((rd_T47 t454 x7_1).f2).toList) && (((rd_T47 t451 x7_1).f3) == ((rd_T47 t454 x7_1).f3))))) = true := by simpa using c15)); (try (have c15b2 : (((rd_T47 t451 x7_1).f0) == ((rd_T47 t454 x7_1).f0) && (((rd_T47 t451 x7_1).f1) == ((rd_T47 t454 x7_1).f1) && ((((rd_T47 t451 x7_1).f2).toList) == (((rd_T47 t454 x7_1).f2).toList) && (((rd_T47 t451 x7_1).f3) == ((rd_T47 t454 x7_1).f3))))) = true := by simpa using c15)); clear c15; have H' := Aside0.mk H; clear H; obtain ⟨Ao16, co16, eo16⟩ := Kd.R_slice HO_5.out; subst eo16; obtain ⟨Ao17, co17, eo17⟩ := Kd.R_slice HO_6.out; subst eo17; have p457 : 0 ≤ (x7_1 : Int) := qD; have q457 : x7_1 < (t451.length : Int) := qD; obtain ⟨ad457, e457, hx457_0, hx457_1, hx457_2, hx457_3⟩ := at_T47 (Kd.R_reads' HO_5.out).2.2 x7_1 p457 q457; cases e457; replace p457 := eq_true p457; replace q457 := eq_true q457; have p458 : 0 ≤ (x7_1 : Int) := qD; have q458 : x7_1 < (t454.length : Int) := qD
       obtain ⟨ad458, e458, hx458_0, hx458_1, hx458_2, hx458_3⟩ := at_T47 (Kd.R_reads' HO_6.out).2.2 x7_1 p458 q458; cases e458; replace p458 := eq_true p458; replace q458 := eq_true q458
       go_wp2
       repeat (go_quiet (fail); try go_wp2)
       go_roundg k1
       case measure => have := HK1.out; omega
       case rel => exact ⟨(wrap64 (x7_1 + 1)), qE, H', ⟨by have := HK1.out; omega⟩, ⟨by (with_reducible repeat (first | apply Kd.R_alloc | apply Kd.R_drewN | apply Kd.R_drew)); exact HO_5.out⟩, ⟨by (with_reducible repeat (first | apply Kd.R_alloc | apply Kd.R_drewN | apply Kd.R_drew)); exact HO_6.out⟩, ⟨qK⟩, ⟨qK⟩, ⟨qB⟩⟩
      rw [if_neg c15] at H; have c15b0 : (((rd_T47 t451 x7_1).f0) == ((rd_T47 t454 x7_1).f0) && (((rd_T47 t451 x7_1).f1) == ((rd_T47 t454 x7_1).f1) && ((((rd_T47 t451 x7_1).f2).toList) == (((rd_T47 t454 x7_1).f2).toList) && (((rd_T47 t451 x7_1).f3) == ((rd_T47 t454 x7_1).f3))))) = false := by simpa using c15
      (try (have c15b1 : decide (((rd_T47 t451 x7_1).f0) = ((rd_T47 t454 x7_1).f0) && (((rd_T47 t451 x7_1).f1) == ((rd_T47 t454 x7_1).f1) && ((((rd_T47 t451 x7_1).f2).toList) == (((rd_T47 t454 x7_1).f2).toList) && (((rd_T47 t451 x7_1).f3) == ((rd_T47 t454 x7_1).f3))))) = false := by simpa using c15)); (try (have c15b2 : (((rd_T47 t451 x7_1).f0) == ((rd_T47 t454 x7_1).f0) && (((rd_T47 t451 x7_1).f1) == ((rd_T47 t454 x7_1).f1) && ((((rd_T47 t451 x7_1).f2).toList) == (((rd_T47 t454 x7_1).f2).toList) && (((rd_T47 t451 x7_1).f3) == ((rd_T47 t454 x7_1).f3))))) = false := by simpa using c15)); (try (have c15b3 : ¬ (((rd_T47 t451 x7_1).f0) = ((rd_T47 t454 x7_1).f0) && (((rd_T47 t451 x7_1).f1) == ((rd_T47 t454 x7_1).f1) && ((((rd_T47 t451 x7_1).f2).toList) == (((rd_T47 t454 x7_1).f2).toList) && (((rd_T47 t451 x7_1).f3) == ((rd_T47 t454 x7_1).f3))))) := by simpa using c15)); clear c15; obtain rfl := Option.some.inj H; obtain ⟨Ao18, co18, eo18⟩ := Kd.R_slice HO_5.out; subst eo18; obtain ⟨Ao19, co19, eo19⟩ := Kd.R_slice HO_6.out; subst eo19; have p457 : 0 ≤ (x7_1 : Int) := qD; have q457 : x7_1 < (t451.length : Int) := qD; obtain ⟨ad457, e457, hx457_0, hx457_1, hx457_2, hx457_3⟩ := at_T47 (Kd.R_reads' HO_5.out).2.2 x7_1 p457 q457; cases e457; replace p457 := eq_true p457; replace q457 := eq_true q457; have p458 : 0 ≤ (x7_1 : Int) := qD; have q458 : x7_1 < (t454.length : Int) := qD; obtain ⟨ad458, e458, hx458_0, hx458_1, hx458_2, hx458_3⟩ := at_T47 (Kd.R_reads' HO_6.out).2.2 x7_1 p458 q458
      cases e458; replace p458 := eq_true p458; replace q458 := eq_true q458
      go_wp2
      repeat (go_quiet (fail); try go_wp2)
      go_ret; exact ⟨qR, qB⟩
     exact absurd H (by simp)
    rw [if_neg c13] at H
    have c13b0 := decide_eq_false c13
    clear c13
    obtain rfl := Option.some.inj H
    obtain ⟨Ao20, co20, eo20⟩ := Kd.R_slice HO_5.out
    subst eo20
    obtain ⟨Ao21, co21, eo21⟩ := Kd.R_slice HO_6.out
    subst eo21
    go_wp2
    repeat (go_quiet (fail); try go_wp2)
    go_ret
    exact ⟨qR, qB⟩
   obtain rfl := Option.some.inj H
   obtain ⟨Ao22, co22, eo22⟩ := Kd.R_slice HO_5.out
   subst eo22
   go_wp2
   repeat (go_quiet (fail); try go_wp2)
   go_ret
   exact ⟨qR, qB⟩
end Go.Proofs.YtbngfhlciebeeaaDoor.L
end
section
namespace Go.Proofs.YtbngfhlciebeeaaDoor.L
open Go.RowKit Go.Proofs.YtbngfhlciebeeaaDoorW.PrintWords Go.Proofs.YtbngfhlciebeeaaDoorW.PrintLast Go.Proofs.YtbngfhlciebeeaaDoorW.PrintMore
attribute [local go_sem] max2_int min2_int max_two min_two max_three min_three max_four min_four   -- for this text's walks alone
set_option linter.unusedVariables false
set_option linter.unusedSimpArgs false
theorem eqA45 (d : Nat) (w : World) (x0 y0 : Int) (x1 y1 : Int) (x2 y2 : ByteArray) (x3 y3 : Int) :
    (Op.equalIn (d + 2) 45 (.agg #[.int .i64 x0, .int .i64 x1, .string x2, .int .i64 x3]) (.agg #[.int .i64 y0, .int .i64 y1, .string y2, .int .i64 y3])).run Tryd.prog w = .ok (x0 == y0 && (x1 == y1 && (x2.toList == y2.toList && (x3 == y3)))) w := by
  refine eqA_of Tryd.underlying45 (by kernel_rfl) ?_
  refine eqf_cons (by rfl) (by go_simp; rfl) (by go_simp; rfl) (by go_simp) ?_
  refine eqf_cons (by rfl) (by go_simp; rfl) (by go_simp; rfl) (by go_simp) ?_
  refine eqf_cons (by rfl) (by go_simp; rfl) (by go_simp; rfl) (by go_simp) ?_
  exact eqf_last (by rfl) (by go_simp; rfl) (by go_simp; rfl) (by go_simp)
end Go.Proofs.YtbngfhlciebeeaaDoor.L
end
