/- Printed and hand-written steps towards the row (TreeRight), those that it reaches. -/
import Derived.Test.YtbngfhlciebeeaaDoorProg
import Derived.Tactics
import Derived.WalkKit
import Derived.KernelRfl
import Derived.Laws.BitsLemmas
import Derived.OrdersHeld
import Derived.Test.YtbngfhlciebeeaaDoorTreeRightWWords
import Derived.Test.YtbngfhlciebeeaaDoorTreeRightWLast
import Derived.Test.YtbngfhlciebeeaaDoorTreeRightWTab
import Derived.Test.YtbngfhlciebeeaaDoorTreeRightG4
import Derived.Test.YtbngfhlciebeeaaDoorTreeRightG5
import Derived.Test.YtbngfhlciebeeaaDoorTreeRightLx0
import Derived.LoopTactic
section
namespace Go.Proofs.YtbngfhlciebeeaaDoor.L
set_option linter.unusedVariables false
open Go.RowKit Go.Proofs.YtbngfhlciebeeaaDoorW.PrintWords Go.Proofs.YtbngfhlciebeeaaDoorW.PrintLast Go.Proofs.YtbngfhlciebeeaaDoorW.PrintMore
section
variable {P : Program} {ops : Array Oper} {Q : Exit → Act → World → Prop} {md : Region.Mode} {S : World → Prop} {ds : List Nat} {oi : Oper} {v : Value} {fuel : Nat} {l l' : Array Bool} {a a' : Act} {w : World}
theorem pu (i N : Nat) (h : wpAnyLast P md ops Q S ds fuel l' a' w) (hi : ops[i]? = some oi := by exact rfl) (hN : oi.dst = some N := by exact rfl)
    (hl : l.setIfInBounds i true = l' := by simp only [List.setIfInBounds_toArray, List.set_cons_zero, List.set_cons_succ]; rfl) (hc : anyB md ops l l' i = true := by exact any_of HT_.out (by kernel_rfl))
    (hQ : ∀ c a w, Q (.panic c) (a.put oi.dst v) w → Q (.panic c) a w := by exact fun _ _ _ h => h)
    (hy : Yields P ops oi v a := by first | exact Or.inl ⟨by rfl, by intro w'; go_simp; with_reducible rfl⟩ | exact Or.inr ⟨by rfl, rfl⟩)
    (ha : a.put (some N) v = a' := by simp only [Act.put, List.setIfInBounds_toArray, List.set_cons_zero, List.set_cons_succ, i64_w, i32_w]; rfl) : wpAnyLast P md ops Q S ds (fuel + 1) l a w :=
  pure_ l' hi hN hc hQ hy ha h
theorem po (i N : Nat) (h : wpAnyLast P md ops Q S ds fuel l' a' w) (hi : ops[i]? = some oi := by exact rfl) (hN : oi.dst = some N := by exact rfl)
    (hl : l.setIfInBounds i true = l' := by simp only [List.setIfInBounds_toArray, List.set_cons_zero, List.set_cons_succ]; rfl) (hc : anyB md ops l l' i = true := by exact any_of HT_.out (by kernel_rfl))
    (hQ : ∀ c a w, Q (.panic c) (a.put oi.dst undef) w → Q (.panic c) a w := by exact fun _ _ _ h => h)
    (hy : Yields P ops oi undef a := by exact Or.inr ⟨by rfl, rfl⟩)
    (ha : a.put (some N) undef = a' := by simp only [Act.put, List.setIfInBounds_toArray, List.set_cons_zero, List.set_cons_succ, i64_w, i32_w]; rfl) : wpAnyLast P md ops Q S ds (fuel + 1) l a w :=
  pure_ l' hi hN hc hQ hy ha h
theorem tk (i N : Nat) (h : wpAnyLast P md ops Q S ds fuel l' a' w) (hi : ops[i]? = some oi := by exact rfl) (hN : oi.dst = some N := by exact rfl)
    (hl : l.setIfInBounds i true = l' := by simp only [List.setIfInBounds_toArray, List.set_cons_zero, List.set_cons_succ]; rfl) (hc : takeB md ops ds l l' i = true := by exact take_ofW HT_.out HW_.out (by kernel_rfl))
    (hQ : ∀ c a w, Q (.panic c) (a.put oi.dst v) w → Q (.panic c) a w := by exact fun _ _ _ h => h)
    (hy : YieldsIf P ops S oi v a := by exact Or.inl ⟨by rfl, by intro w' hS_; (repeat (rcases hS_ with ⟨h_, hS_⟩)); go_simp; with_reducible rfl⟩) (hS : S w := by exact hHeld)
    (ha : a.put (some N) v = a' := by simp only [Act.put, List.setIfInBounds_toArray, List.set_cons_zero, List.set_cons_succ, i64_w, i32_w]; rfl) : wpAnyLast P md ops Q S ds (fuel + 1) l a w :=
  take_ l' hi hN hc hQ hy hS ha h
theorem onx (i N : Nat) (h : ∀ K : Act → World → Prop, Shut (∀ a' w', S w' → (S w' → wpAnyLast P md ops Q S ds fuel l' a' w') → K a' w') → if Region.wanted oi (yielded ops a.tmps) = true then Oper.wp P oi a w K Q else K (a.put (some N) undef) w)
    (hi : ops[i]? = some oi := by exact rfl) (hN : oi.dst = some N := by exact rfl)
    (hl : l.setIfInBounds i true = l' := by simp only [List.setIfInBounds_toArray, List.set_cons_zero, List.set_cons_succ]; rfl) (hc : readyB md ops l l' i = true := by exact one_of HT_.out (by kernel_rfl)) (hd : i ∉ ds := by decide) :
    wpAnyLast P md ops Q S ds (fuel + 1) l a w := one_ l' hi hN hc hd h
theorem nm (N : Nat) (h : wpAnyLast P md ops Q S ds fuel l a' w) (ha : Act.put a (some N) v = a' := by simp only [Act.put, List.setIfInBounds_toArray, List.set_cons_zero, List.set_cons_succ, i64_w, i32_w]; rfl) : wpAnyLast P md ops Q S ds fuel l (Act.put a (some N) v) w := norm_ ha h
end
section
theorem blk_pu {w : World} {g : Nat} {t : TypeId} {cs cs' : Array Value} {i : Nat} {u : Value} (h : w.heap[g]? = some (.cells cs t (0, 0))) (e : cs.setIfInBounds i u = cs') : (w.setCell ⟨g, i, none⟩ u).heap[g]? = some (.cells cs' t (0, 0)) := blk_put h i u e
theorem qB {p : Prop} (h : p := by repeat (first | (with_reducible first | exact HB.out | apply below_alloc | apply pw_below_drewN | apply below_drew1 | refine below_set ?_ (Aside0.out (by assumption)) | refine below_set ?_ (IsS122.ge HI0.out)) | exact HB.out)) : p := h
theorem qK {p : Prop} (h : p := by (repeat (with_reducible first | exact Aside0.out (by assumption) | apply blk_drewN | apply blk_drew | apply blk_alloc | apply blk_pu | apply blk_far)); all_goals (first | rfl | exact Aside0.out (by assumption))) : p := h
theorem qD {p : Prop} [Decidable p] (h : decide p = true := by first | (with_reducible assumption) | assumption) : p := of_decide_eq_true h
theorem qR {p : Prop} (h : p := by first | rfl | (simp [errW_none, errW_some] <;> rfl) | (simp [*, errW_none, errW_some] <;> rfl)) : p := h
theorem qI {p : Prop} (h : p := by repeat (first | (with_reducible first | exact HI0.out | apply IsS122.alloc | apply IsS122.drewN | apply IsS122.drew | apply IsS122.set_0 | apply IsS122.set_1 | refine IsS122.far ?_ (Aside0.out (by assumption)) _) | exact HI0.out)) : p := h
theorem qH {p : Prop} (h : p := by repeat (first | (with_reducible first | exact HK.out | apply KeepBut.set_ | apply keep_drewN | apply keep_drew | apply keep_alloc | refine keep_far ?_ (Aside0.out (by assumption)) _) | exact HK.out)) : p := h
theorem qP {p : Prop} (h : p := by (repeat (with_reducible first | exact Aside0.out (by assumption) | apply blk_drewN | apply blk_drew | apply blk_alloc | apply blk_pu | apply blk_far)); all_goals (first | rfl | exact Aside0.out (by assumption))) : p := h
theorem geS {w W : World} {g : Nat} (hg : g = W.heap.size) (h : Below w.heap.size w W := by repeat (first | (with_reducible first | exact HB.out | apply below_alloc | apply pw_below_drewN | apply below_drew1 | refine below_set ?_ (Aside0.out (by assumption)) | refine below_set ?_ (IsS122.ge HI0.out)) | exact HB.out)) : Aside0 (w.heap.size ≤ g) := ⟨by rw [hg]; exact below_size h⟩
theorem gkS {w W : World} {g a : Nat} (hg : g = W.heap.size) (h : KeepBut w W a none := by repeat (first | (with_reducible first | exact HK.out | apply KeepBut.set_ | apply keep_drewN | apply keep_drew | apply keep_alloc | refine keep_far ?_ (Aside0.out (by assumption)) _) | exact HK.out)) : Aside0 (w.heap.size ≤ g) := ⟨by rw [hg]; exact keep_size h⟩
theorem neS (a : Nat) {W : World} {g : Nat} {o : Obj} (hg : g = W.heap.size) (h : W.heap[a]? = some o := by (repeat (with_reducible first | exact Aside0.out (by assumption) | apply blk_drewN | apply blk_drew | apply blk_alloc | apply blk_pu | apply blk_far)); all_goals (first | rfl | exact Aside0.out (by assumption))) : Aside0 (a ≠ g) := ⟨by rw [hg]; exact Nat.ne_of_lt (blk_lt h)⟩
theorem neT (a : Nat) {W : World} {g : Nat} {o : Obj} (hg : g = W.heap.size) (h : W.heap[a]? = some o := by (repeat (with_reducible first | exact Aside0.out (by assumption) | apply blk_drewN | apply blk_drew | apply blk_alloc | apply blk_pu | apply blk_far)); all_goals (first | rfl | exact Aside0.out (by assumption))) : Aside0 (g ≠ a) := ⟨by rw [hg]; exact Nat.ne_of_gt (blk_lt h)⟩
theorem niS {w0 W : World} {g a : Nat} {s : ByteArray} {i : Int} (hg : g = W.heap.size) (h : IsS122 w0 W a s i := by repeat (first | (with_reducible first | exact HI0.out | apply IsS122.alloc | apply IsS122.drewN | apply IsS122.drew | apply IsS122.set_0 | apply IsS122.set_1 | refine IsS122.far ?_ (Aside0.out (by assumption)) _) | exact HI0.out)) : Aside0 (a ≠ g) := ⟨by rw [hg]; exact Nat.ne_of_lt (IsS122.lt h)⟩
theorem niT {w0 W : World} {g a : Nat} {s : ByteArray} {i : Int} (hg : g = W.heap.size) (h : IsS122 w0 W a s i := by repeat (first | (with_reducible first | exact HI0.out | apply IsS122.alloc | apply IsS122.drewN | apply IsS122.drew | apply IsS122.set_0 | apply IsS122.set_1 | refine IsS122.far ?_ (Aside0.out (by assumption)) _) | exact HI0.out)) : Aside0 (g ≠ a) := ⟨by rw [hg]; exact Nat.ne_of_gt (IsS122.lt h)⟩
theorem bst {w W w2 : World} (hb : Below W.heap.size W w2) (h : Below w.heap.size w W := by repeat (first | (with_reducible first | exact HB.out | apply below_alloc | apply pw_below_drewN | apply below_drew1 | refine below_set ?_ (Aside0.out (by assumption)) | refine below_set ?_ (IsS122.ge HI0.out)) | exact HB.out)) : Aside0 (Below w.heap.size w w2) := ⟨below_step h hb⟩
theorem kb (g : Nat) {W w2 : World} {o : Obj} (hb : Below W.heap.size W w2) (h : W.heap[g]? = some o := by (repeat (with_reducible first | exact Aside0.out (by assumption) | apply blk_drewN | apply blk_drew | apply blk_alloc | apply blk_pu | apply blk_far)); all_goals (first | rfl | exact Aside0.out (by assumption))) : Aside0 (w2.heap[g]? = some o) := ⟨blk_below h hb⟩
theorem kp (g : Nat) (o : Obj) {W w2 : World} (hb : Below W.heap.size W w2) (h : W.heap[g]? = some o := by (repeat (with_reducible first | exact Aside0.out (by assumption) | apply blk_drewN | apply blk_drew | apply blk_alloc | apply blk_pu | apply blk_far)); all_goals (first | rfl | exact Aside0.out (by assumption))) : Aside0 (w2.heap[g]? = some o) := ⟨blk_below h hb⟩
theorem qW {p : Prop} (h : p := by first | exact ⟨rfl, _, World.drewN_drewN _ _ _⟩ | exact ⟨rfl, _, Eq.trans (World.drewN_drewN _ _ _) (congrArg (World.drewN _) (Nat.add_assoc _ _ _))⟩) : p := h
theorem qC {p : Prop} (h : p := by repeat (first | exact (Kd.C_below (Aside0.out (by assumption)) HB.out) | (with_reducible exact Aside0.out (by assumption)) | (with_reducible refine Kd.C_alloc ?_ _) | (with_reducible refine Kd.C_drewN ?_ _) | (with_reducible refine Kd.C_drew ?_))) : p := h
section
variable {P : Program} {ops : Array Oper} {rest : List Oper} {o : Oper} {a : Act} {Q : Exit → Act → World → Prop}
theorem bx (N : Nat) (cs : Array Value) (t : TypeId) {W : World} (h : ∀ g, g = W.heap.size → ∀ w1, w1.heap[g]? = some (.cells cs t (0, 0)) → Below W.heap.size W w1 → wpList P ops Q rest (a.put o.dst (.pointer (some ⟨g, 0, none⟩))) w1)
    (hd : o.dst = some N := by with_reducible rfl) (hgd : o.guard = none := by rfl)
    (hr : (execOp a.eval o).run P W = .ok (.value (.pointer (some ⟨W.heap.size, 0, none⟩))) (W.alloc (.cells cs t (0, 0))) := by first | (go_simp; done) | (go_simp; rfl)) : wpList P ops Q (o :: rest) a W := box_event hgd hd hr h
theorem gl (N : Option Tmp) (args : Array Value) {f : FuncId} {fn : Func} {os : Array Operand} {ts : Array TypeId} {w : World} (hf : P.funcs[f]? = some fn)
    (h : Calls P f args w fun e w' => ∃ v, e = .returned v ∧ wpList P ops Q rest (a.put N v) w')
    (hop : o.op = .call { callee := .value (.func f), args := os, argTypes := ts } := by with_reducible rfl) (hd : o.dst = N := by rfl) (hg : o.guard = none := by rfl) (hname : (fn.name == "runtime.NumGoroutine") = false := by kernel_rfl) (hb : fn.body.isSome = true := by rfl)
    (hargs : os.map a.eval = args := by (try simp only [List.map_toArray, List.map_cons, List.map_nil]); first | done | rfl | (simp only [List.length_drop, List.length_take]; rfl)) : wpList P ops Q (o :: rest) a w := goesL_ N hd hg hf hname hb args hop hargs h
end
section
variable {α : Type} {d : Kd α} {e base : Nat} {ok : Nat → Prop} {v : Value} {xs : List α} {w0 W w2 : World}
theorem rb (h : Aside0 (d.R e w0 base ok v xs)) (hb : Below W.heap.size W w2) (k : Below w0.heap.size w0 W := by repeat (first | (with_reducible exact Below.refl _ _) | (with_reducible apply below_alloc) | (with_reducible apply pw_below_drewN) | (with_reducible apply below_drew1))) : Aside0 (d.R e w2 base ok v xs) := ⟨Kd.R_below (Kd.R_below h.out k) hb⟩
theorem cr {A : Option Addr} {n c : Nat} (h : Aside0 (d.R e w0 base ok (.slice A n c) xs)) (k : Below w0.heap.size w0 W := by repeat (first | (with_reducible exact Below.refl _ _) | (with_reducible apply below_alloc) | (with_reducible apply pw_below_drewN) | (with_reducible apply below_drew1))) : d.C W A xs.length xs := Kd.C_below (Kd.R_reads' h.out).2.2 k
end
theorem cfa (p : Addr) (u : Value) {w : World} {a : Addr} {v : Value} (h : w.cell? a = some v) (hn : a.block ≠ p.block := by first | (rw [add_block]; assumption) | (show (Addr.add _ _).block ≠ _; rw [add_block]; assumption) | assumption) : (w.setCell p u).cell? a = some v := (cell_far hn u).trans h
theorem cne {w : World} {a : Addr} {v : Value} {g b : Nat} (h : w.cell? a = some v) (k : Aside0 (w.heap.size ≤ g)) (e : a.block = b := by first | exact add_block _ _ | rfl) : b ≠ g := by
  subst e
  exact Nat.ne_of_lt (Nat.lt_of_lt_of_le (World.block_lt_of_cell? _ _ h) k.out)
theorem cells4 {w : World} {g t : Nat} {a b c d : Value} (h : w.heap[g]? = some (.cells #[a, b, c, d] t (0, 0))) : w.cell? ⟨g, 0, none⟩ = some a ∧ w.cell? ⟨g, 1, none⟩ = some b ∧ w.cell? ⟨g, 2, none⟩ = some c ∧ w.cell? ⟨g, 3, none⟩ = some d ∧ w.frozen? ⟨g, 0, none⟩ = false ∧ w.frozen? ⟨g, 1, none⟩ = false ∧ w.frozen? ⟨g, 2, none⟩ = false ∧ w.frozen? ⟨g, 3, none⟩ = false := ⟨blk_cell h 0, blk_cell h 1, blk_cell h 2, blk_cell h 3, blk_frozen h 0, blk_frozen h 1, blk_frozen h 2, blk_frozen h 3⟩
end
end Go.Proofs.YtbngfhlciebeeaaDoor.L
end
section
namespace Go.Proofs.YtbngfhlciebeeaaDoor.L
set_option linter.unusedVariables false
set_option linter.unusedSimpArgs false
open Go.RowKit Go.Proofs.YtbngfhlciebeeaaDoorW.PrintWords Go.Proofs.YtbngfhlciebeeaaDoorW.PrintLast Go.Proofs.YtbngfhlciebeeaaDoorW.PrintMore
theorem ret_bool {a b : Bool} (h : a = b) : Ending.returned (.bool a) = .returned (.bool b) := by rw [h]
def val_Plain.ok (c : UInt8) : Bool := !(decide (c.toNat < 32) || decide (126 < c.toNat) || c.toNat == 39)
def val_Plain.f (a0 : ByteArray) : Option Bool := if a0.size ≤ 140737488351232 then some (a0.data.toList.all val_Plain.ok && decide (a0.size ≤ 48)) else none
theorem plain_ok_of {c : UInt8} (h1 : ¬ ((c.toNat : Int) < 32)) (h2 : ¬ (126 < (c.toNat : Int))) (h3 : ¬ ((c.toNat : Int) = 39)) : val_Plain.ok c = true := by
  unfold val_Plain.ok
  have a1 : decide (c.toNat < 32) = false := by simp; omega
  have a2 : decide (126 < c.toNat) = false := by simp; omega
  have a3 : (c.toNat == 39) = false := by simp; omega
  rw [a1, a2, a3]; rfl
theorem plain_bad {c : UInt8} (h : (c.toNat : Int) < 32 ∨ 126 < (c.toNat : Int) ∨ (c.toNat : Int) = 39) : val_Plain.ok c = false := by
  unfold val_Plain.ok
  rcases h with h | h | h
  · have : decide (c.toNat < 32) = true := by simp; omega
    rw [this]; rfl
  · have : decide (126 < c.toNat) = true := by simp; omega
    rw [this]; simp
  · have : (c.toNat == 39) = true := by simp; omega
    rw [this]; simp
theorem all_take_succ {l : List UInt8} {p : UInt8 → Bool} {k : Nat} (hk : k < l.length) (h : (l.take k).all p = true) (h2 : p (l.getD k 0) = true) : (l.take (k + 1)).all p = true := by
  rw [List.take_succ_eq_append_getElem hk, List.all_append, h]
  simp [List.getD_eq_getElem?_getD, hk] at h2 ⊢
  exact h2
theorem all_false_of {l : List UInt8} {p : UInt8 → Bool} {k : Nat} (hk : k < l.length) (h2 : p (l.getD k 0) = false) : l.all p = false := by
  rw [List.all_eq_false]
  refine ⟨l[k], List.getElem_mem hk, ?_⟩
  simp [List.getD_eq_getElem?_getD, hk] at h2
  simp [h2]
set_option maxHeartbeats 1000000 in
theorem plain_core (a0 : ByteArray) (r : Bool) (w : World) (hs : a0.size ≤ 140737488351232) (hr : Hid (r = (a0.data.toList.all val_Plain.ok && decide (a0.size ≤ 48)))) :
    Calls Tryd.prog 101 #[.string a0] w fun e w' => e = .returned (.bool r) ∧ Below w.heap.size w w' := by
  have kb := fun W => print_bytes (P := Tryd.prog) 9 131 5 Tryd.underlying9 Tryd.underlying131 Tryd.underlying5 a0 W
  go_enter Tryd.func101, Tryd.ntmps101
  go_wp2
  have hc : ∀ j, j < a0.size → (Lib.bytesWorld w 5 a0).cell? ⟨w.heap.size, j, none⟩ = some (.int .u8 (a0.data.toList.getD j 0).toNat) := fun j hj => Lib.bytesWorld_cell w 5 a0 j hj
  have HB := Aside0.mk (bytes_below (Below.refl w.heap.size w) (Nat.le_refl _) 5 a0)
  have HC := Aside0.mk hc
  clear hc kb
  generalize grownCap w a0.size 0 5 = cp
  generalize Lib.bytesWorld w 5 a0 = W at HB HC ⊢
  go_loop [8] (fun i => ∃ k : Nat, k ≤ a0.size ∧ i = .int .i64 k ∧ Hid ((a0.data.toList.take k).all val_Plain.ok = true)) (fun i => a0.size - (intOf i).toNat)
  case atStart => exact ⟨0, Nat.zero_le _, rfl, rfl⟩
  case round =>
    obtain ⟨k, hk, rfl, hall⟩ := hrel
    by_cases hlt : k < a0.size
    · have hcell := HC.out k hlt
      have hu : ((a0.data.toList.getD k 0).toNat : Int) < 256 := by have := (a0.data.toList.getD k 0).toNat_lt; omega
      have hl : k < a0.data.toList.length := by rw [data_length]; exact hlt
      obtain ⟨c, Hc⟩ : ∃ c, Hid (a0.data.toList.getD k 0 = c) := ⟨_, rfl⟩
      rw [Hc.out] at hcell hu
      by_cases h1 : (c.toNat : Int) < 32
      · have Hb : Hid (r = false) := by rw [hr.out, all_false_of hl (by rw [Hc.out]; exact plain_bad (.inl h1))]; rfl
        go_wp2
        go_ret
        exact ⟨ret_bool Hb.out.symm, HB.out⟩
      · by_cases h2 : 126 < (c.toNat : Int)
        · have Hb : Hid (r = false) := by rw [hr.out, all_false_of hl (by rw [Hc.out]; exact plain_bad (.inr (.inl h2)))]; rfl
          go_wp2
          go_ret
          exact ⟨ret_bool Hb.out.symm, HB.out⟩
        · by_cases h3 : (c.toNat : Int) = 39
          · have Hb : Hid (r = false) := by rw [hr.out, all_false_of hl (by rw [Hc.out]; exact plain_bad (.inr (.inr h3)))]; rfl
            have h4 : ((c.toNat : Int) == 39) = true := by rw [beq_iff_eq]; exact h3
            clear h3
            go_wp2
            go_ret
            exact ⟨ret_bool Hb.out.symm, HB.out⟩
          · have Hg : Hid ((a0.data.toList.take (k + 1)).all val_Plain.ok = true) := all_take_succ hl hall.out (by rw [Hc.out]; exact plain_ok_of h1 h2 h3)
            have h4 : ((c.toNat : Int) == 39) = false := by rw [beq_eq_false_iff_ne]; exact h3
            clear h3
            go_wp2
            go_round
            case rel => exact ⟨k + 1, by omega, by go_num, Hg⟩
            case measure => simp [intOf]; omega
    · have Hb : Hid (r = decide (a0.size ≤ 48)) := by
        rw [hr.out]
        have := hall.out
        rw [List.take_of_length_le (by rw [data_length]; omega)] at this
        rw [this]; rfl
      go_wp2
      go_ret
      exact ⟨ret_bool (by rw [Hb.out]; exact decide_eq_decide.2 (by omega)), HB.out⟩
theorem val_Plain.calls (a0 : ByteArray) (r : Bool) (w : World) (h : val_Plain.f a0 = some r) :
    Calls Tryd.prog 101 #[.string a0] w fun e w' => e = .returned (.bool r) ∧ Below w.heap.size w w' := by
  unfold val_Plain.f at h
  split at h
  · rename_i hs
    exact plain_core a0 r w hs (Option.some.inj h).symm
  · cases h
end Go.Proofs.YtbngfhlciebeeaaDoor.L
end
