/- Printed and hand-written steps towards the row (EvalShort), those that it reaches. -/
import Derived.Test.YtbngfhlciebeeaaDoorEvalShortG8
import Derived.SizedLaws
import Derived.Test.YtbngfhlciebeeaaDoorEvalShortG3
import Derived.Test.YtbngfhlciebeeaaDoorEvalShortG4
section
namespace Go.Proofs.YtbngfhlciebeeaaDoor.Opn
set_option linter.unusedVariables false
set_option linter.unusedSimpArgs false
open Go.RowKit Go.ChangeShapes Go.WideShapes Go.Proofs.YtbngfhlciebeeaaDoorW.PrintWords
theorem weights_mem_all {H : Type} {P : Program} {e : TypeId} : ∀ {ds : List (DataW H)} {d : DataW H}, d ∈ ds → ∀ n ∈ d.weights P e, n ∈ DataW.weightsAll P e ds
  | [], _, h, _, _ => by cases h
  | d0 :: ds, d, h, n, hn => by
    simp only [DataW.weightsAll, List.mem_append]
    rcases List.mem_cons.1 h with rfl | h
    · exact Or.inl hn
    · exact Or.inr (weights_mem_all h n hn)
section
variable {H : Type} {enc : TypeId × Value → H} {P : Program} {w : World} {base : Nat} {sp : Nat → Bool} {held : Bool} {α β : Type}
def Reach (P : Program) (T : TypeId) (d : DataW H) : Prop := ∀ m ∈ d.weights P T, m ≤ reachBytes
def OpensW (enc : TypeId × Value → H) (P : Program) (w : World) (base : Nat) (sp : Nat → Bool) (held : Bool) (T : TypeId) (kd : Kd α) (ok : α → Prop) : Prop :=
  ∀ (n : Nat) (cs : List Value) (y : DataW H × List MemPlace), DataW.trod enc P w base sp held n T cs = some y → Reach P T y.1 → ∃ x, kd.K w x cs ∧ ok x
def OpensWF (enc : TypeId × Value → H) (P : Program) (w : World) (base : Nat) (sp : Nat → Bool) (held : Bool) (fs : List Field) (off tot : Nat) (kd : Kd α) (ok : α → Prop) : Prop :=
  ∀ (n : Nat) (cs : List Value), cs.length = tot → (∀ f ∈ fs, ∃ y, DataW.trod enc P w base sp held n f.type ((cs.drop f.offset).take (P.cellsOf f.type)) = some y ∧ Reach P f.type y.1) → ∃ x, kd.K w x (cs.drop off) ∧ ok x
theorem wide {T : TypeId} {kd : Kd α} {ok : α → Prop} (h : Opens enc P w base sp held T kd ok) : OpensW enc P w base sp held T kd ok := fun n cs y hy _ => h n cs y hy
theorem opensW_string {T : TypeId} (hu : P.underlying T = some .string) : OpensW enc P w base sp held T Kd.string (fun s => s.size ≤ 140737488351232) := fun n cs y h hr => by
  obtain ⟨x, rfl, hy, hw⟩ := DataW.trod_string hu h
  refine ⟨x, rfl, ?_⟩
  rw [hy] at hr
  have := hr x.data.toList.length (by simp [DataW.weights])
  rw [Array.length_toList] at this
  exact this
theorem opensWF_one {f : Field} {off tot : Nat} {kd : Kd α} {ok : α → Prop} (h : OpensW enc P w base sp held f.type kd ok) (ho : f.offset = off) (hs : off + P.cellsOf f.type = tot) : OpensWF enc P w base sp held [f] off tot kd ok := fun n cs hl hf => by
  obtain ⟨y, hy, hr⟩ := hf f (by simp)
  rw [ho, List.take_of_length_le (by rw [List.length_drop]; omega)] at hy
  exact h n _ y hy hr
theorem opensWF_cons {f : Field} {fs : List Field} {off tot : Nat} {a : Kd α} {b : Kd β} {ok : α → Prop} {ok2 : β → Prop} (h : OpensW enc P w base sp held f.type a ok) (ho : f.offset = off) (hr : OpensWF enc P w base sp held fs (off + P.cellsOf f.type) tot b ok2) :
    OpensWF enc P w base sp held (f :: fs) off tot (Kd.pair a b) (fun x => ok x.1 ∧ ok2 x.2) := fun n cs hl hf => by
  obtain ⟨y, hy, hrc⟩ := hf f (by simp)
  rw [ho] at hy
  obtain ⟨x, hx, hox⟩ := h n _ y hy hrc
  obtain ⟨z, hz, hoz⟩ := hr n cs hl (fun g hg => hf g (List.mem_cons_of_mem _ hg))
  refine ⟨(x, z), ⟨_, _, ?_, hx, hz⟩, hox, hoz⟩
  rw [← List.drop_drop, List.take_append_drop]
theorem opensW_struct {T : TypeId} {fs : Array Field} {tot : Nat} {kd : Kd α} {ok : α → Prop} (hu : P.underlying T = some (.struct fs)) (hc : P.cellsOf T = tot) (h : OpensWF enc P w base sp held fs.toList 0 tot kd ok) : OpensW enc P w base sp held T kd ok := fun n cs y hy hr => by
  obtain ⟨xs, m, _, hy1, hl, hxs, hf⟩ := DataW.trod_struct hu hy
  obtain ⟨x, hx, ho⟩ := h m cs (hl.trans hc) (fun f hm => by
    obtain ⟨i, hi⟩ := List.getElem?_of_mem hm
    have h1 := hf i f (by simpa using hi)
    have h2 : i < xs.length := by
      rw [hxs]
      have := (List.getElem?_eq_some_iff.1 hi).1
      simpa using this
    refine ⟨xs[i], h1.trans (List.getElem?_eq_getElem h2), fun z hz => hr z ?_⟩
    rw [hy1]
    simp only [DataW.weights, hu]
    exact DataW.weights_mem_each (j := i) (by rw [List.getElem?_map, hi]; rfl) (by rw [List.getElem?_map, List.getElem?_eq_getElem h2]; rfl) z hz)
  exact ⟨x, by simpa using hx, ho⟩
theorem opensW_iso {T : TypeId} {kd : Kd α} {ok : α → Prop} {f : β → α} (g : α → β) (hg : ∀ y, f (g y) = y) (h : OpensW enc P w base sp held T kd ok) : OpensW enc P w base sp held T (Kd.iso kd f) (fun x => ok (f x)) := fun n cs y hy hr => by
  obtain ⟨x, hx, ho⟩ := h n cs y hy hr
  exact ⟨g x, by show kd.K w (f (g x)) cs; rw [hg]; exact hx, by show ok (f (g x)); rw [hg]; exact ho⟩
theorem opensW_slice (b : Nat) {T E : TypeId} {q : Nat} {kd : Kd α} {ok : α → Prop} (hu : P.underlying T = some (.slice E)) (hc : P.cellsOf E = kd.sz) (hb : P.bytesOf E = b) (h : OpensW enc P w base sp held E kd ok) :
    OpensW enc P w base sp held T (Kd.slice q kd) (fun l => l.length * b ≤ 140737488351232 ∧ ∀ x ∈ l, ok x) := fun n cs y hy hr => by
  rcases DataW.trod_slice hu hy with ⟨rfl, _⟩ | ⟨a, len, cap, elems, rest, m, _, rfl, hy1, _, hl, hm, hel, he, _, _⟩
  · exact ⟨[], ⟨none, 0, rfl, Nat.le_refl _, rfl, by simp, fun h => absurd h (by simp)⟩, by simp, by simp⟩
  · obtain ⟨l, hll, hp⟩ := choose_list (p := fun i x => ∃ c, c.length = kd.sz ∧ kd.K w x c ∧ ok x ∧ ∀ j u, c[j]? = some u → w.cell? (a.add (i * kd.sz + j)) = some u) len (fun i hi => by
      have h1 := he i hi
      rw [hc, List.getElem?_eq_getElem (by omega)] at h1
      obtain ⟨c, hc1, hc2⟩ := Option.bind_eq_some_iff.1 h1
      obtain ⟨x, hx, hox⟩ := h m c _ hc2 (fun z hz => hr z (by
        rw [hy1]
        simp only [DataW.weights, hu, List.mem_cons, List.mem_append]
        exact Or.inr (Or.inl (weights_mem_all (List.mem_map_of_mem (List.getElem_mem _)) z hz))))
      obtain ⟨hlen, hget⟩ := cells?_get hc1
      exact ⟨x, c, hlen, hx, hox, fun j u hju => by
        have := hget j u hju
        rwa [Addr.add_add] at this⟩)
    have hlen : len * b ≤ 140737488351232 := by
      have := hr _ (by rw [hy1]; simp only [DataW.weights, hu, List.mem_cons]; exact Or.inl rfl)
      simp only [List.length_map, hb] at this
      have h3 : elems.length * b ≤ (elems.length + rest.length) * b := Nat.mul_le_mul_right _ (by omega)
      have h4 : reachBytes = 140737488351232 := rfl
      rw [hel] at h3
      rw [hel] at this
      omega
    refine ⟨l, ⟨some a, cap, by rw [hll], by omega, rfl, ?_, fun _ => ⟨a, rfl, fun j p hj => ?_⟩⟩, by rw [hll]; exact hlen, fun x hx => ?_⟩
    · simp only [maxLen] at hm; omega
    · obtain ⟨c, h1, h2, _, h4⟩ := hp j p hj
      exact ⟨c, h1, h2, h4⟩
    · obtain ⟨i, hi⟩ := List.getElem?_of_mem hx
      obtain ⟨c, _, _, h3, _⟩ := hp i x hi
      exact h3
theorem argW_struct {T : TypeId} {kd : Kd α} {ok : α → Prop} {cs : Array Value} {d : DataW H} {ps : List MemPlace} (h : OpensW enc P w base sp held T kd ok) (ht : DataW.Trod enc P w base sp held T (.agg cs) d ps) (hr : Reach P T d) :
    ∃ x, kd.K w x cs.toList ∧ ok x := by
  obtain ⟨n, hn⟩ := ht
  exact h n _ _ hn hr
theorem reach_of {ts : List TypeId} {ds : List (DataW H)} (h : (DataW.weightsEach P ts ds).all (· ≤ reachBytes) = true) {j : Nat} {t : TypeId} {d : DataW H} (ht : ts[j]? = some t) (hd : ds[j]? = some d) : Reach P t d := fun n hn => by
  have := List.all_eq_true.1 h _ (DataW.weights_mem_each ht hd n hn)
  simpa using this
theorem opensW9 : OpensW enc Tryd.prog w base sp held 9 Kd.string (fun s => s.size ≤ 140737488351232) := opensW_string Tryd.underlying9
end
def Sz (s : ByteArray) : Prop := s.size ≤ 140737488351232
def okV (v : L.S103) : Prop := I64 v.f0 ∧ I64 v.f1 ∧ Sz v.f2
def okSs (l : List ByteArray) : Prop := l.length * 16 ≤ 140737488351232 ∧ ∀ x ∈ l, Sz x
def okCs (l : List L.S116) : Prop := l.length * 48 ≤ 140737488351232 ∧ ∀ x ∈ l, Sz x.f0 ∧ okV x.f1
section
variable {H : Type} {enc : TypeId × Value → H} {w : World} {base : Nat} {sp : Nat → Bool} {held : Bool}
theorem opensW3 : OpensW enc Tryd.prog w base sp held 3 (Kd.int .i64) I64 := wide opens3
theorem opensW2 : OpensW enc Tryd.prog w base sp held 2 (Kd.int .i64) I64 := wide opens2
theorem opensV9 : OpensW enc Tryd.prog w base sp held 9 Kd.string Sz := opensW9
theorem opensV34 : OpensW enc Tryd.prog w base sp held 34 (Kd.slice 9 Kd.string) okSs := opensW_slice 16 Tryd.underlying34 (by kernel_rfl) (by kernel_rfl) opensV9
theorem opensV103 : OpensW enc Tryd.prog w base sp held 103 L.k103 okV :=
  opensW_iso (fun x => ⟨x.1, x.2.1, x.2.2⟩) (fun _ => rfl)
    (opensW_struct Tryd.underlying103 (tot := 3) (by kernel_rfl) (opensWF_cons opensW3 rfl (opensWF_cons opensW2 (by kernel_rfl) (opensWF_one opensV9 (by kernel_rfl) (by kernel_rfl)))))
theorem opensV116 : OpensW enc Tryd.prog w base sp held 116 L.k116 (fun x => Sz x.f0 ∧ okV x.f1) :=
  opensW_iso (fun x => ⟨x.1, x.2⟩) (fun _ => rfl)
    (opensW_struct Tryd.underlying116 (tot := 4) (by kernel_rfl) (opensWF_cons opensV9 rfl (opensWF_one opensV103 (by kernel_rfl) (by kernel_rfl))))
theorem opensV96 : OpensW enc Tryd.prog w base sp held 96 (Kd.slice 116 L.k116) okCs := opensW_slice 48 Tryd.underlying96 (by kernel_rfl) (by kernel_rfl) opensV116
theorem opensV98 : OpensW enc Tryd.prog w base sp held 98 (Kd.pair (Kd.slice 116 L.k116) (Kd.slice 9 Kd.string)) (fun x => okCs x.1 ∧ okSs x.2) :=
  opensW_struct Tryd.underlying98 (tot := 2) (by kernel_rfl) (opensWF_cons opensV96 rfl (opensWF_one opensV34 (by kernel_rfl) (by kernel_rfl)))
theorem two_rows {α β : Type} {q1 q2 : Nat} {a : Kd α} {b : Kd β} {x : List α × List β} {cs : List Value} (h : (Kd.pair (Kd.slice q1 a) (Kd.slice q2 b)).K w x cs) :
    ∃ (A : Option Addr) (c : Nat) (B : Option Addr) (d : Nat), cs = [.slice A x.1.length c, .slice B x.2.length d] ∧ x.1.length ≤ c ∧ Kd.C a w A x.1.length x.1 ∧ x.2.length ≤ d ∧ Kd.C b w B x.2.length x.2 := by
  obtain ⟨c1, c2, rfl, ⟨A, c, rfl, h1, h2⟩, ⟨B, d, rfl, h3, h4⟩⟩ := h
  exact ⟨A, c, B, d, rfl, h1, h2, h3, h4⟩
end
end Go.Proofs.YtbngfhlciebeeaaDoor.Opn
end
section
namespace Go.Proofs.YtbngfhlciebeeaaDoor.L
open Go.RowKit Go.Proofs.YtbngfhlciebeeaaDoorW.PrintWords Go.Proofs.YtbngfhlciebeeaaDoorW.PrintLast Go.Proofs.YtbngfhlciebeeaaDoorW.PrintMore
attribute [local go_sem] max2_int min2_int max_two min_two max_three min_three max_four min_four   -- for this text's walks alone
set_option linter.unusedVariables false
set_option linter.unusedSimpArgs false
def expr_one.f (a0 : Int) : Option (Bool) := if a0 = 1 then (some true) else (some (a0 == 2))
set_option maxHeartbeats 8000000 in
set_option maxRecDepth 100000 in
theorem expr_one.calls (a0 : Int) (r : Bool) (w : World) (h : expr_one.f a0 = some r) :
  Calls Tryd.prog 119 #[.int .i64 a0] w fun e w' => e = .returned (.bool r) ∧ Drawn0 w w' := by
 have H : (if a0 = 1 then (some true) else (some (a0 == 2))) = some r := h
 clear h
 by_cases c2 : a0 = 1
 ·rw [if_pos c2] at H
  have c2b0 := beq_iff_eq.mpr c2
  have c2b1 := bne_eq_false_iff_eq.mpr c2
  clear c2
  obtain rfl := Option.some.inj H
  go_enter Tryd.func119, Tryd.ntmps119
  go_wp2
  go_ret
  exact qN
 rw [if_neg c2] at H
 have c2b0 := beq_eq_false_iff_ne.mpr c2
 have c2b1 := bne_iff_ne.mpr c2
 obtain rfl := Option.some.inj H
 go_enter Tryd.func119, Tryd.ntmps119
 go_wp2
 go_ret
 exact qN
def expr_two.f (a0 : Int) : Option (Bool) := if a0 ≥ 3 then (some (decide (a0 ≤ 15))) else (some false)
set_option maxHeartbeats 8000000 in
set_option maxRecDepth 100000 in
theorem expr_two.calls (a0 : Int) (r : Bool) (w : World) (h : expr_two.f a0 = some r) :
  Calls Tryd.prog 120 #[.int .i64 a0] w fun e w' => e = .returned (.bool r) ∧ Drawn0 w w' := by
 have H : (if a0 ≥ 3 then (some (decide (a0 ≤ 15))) else (some false)) = some r := h
 clear h
 replace H := iD H
 rcases H with ⟨c2b0, H⟩ | ⟨c2b0, H⟩
 ·obtain rfl := Option.some.inj H
  go_enter Tryd.func120, Tryd.ntmps120
  go_wp2
  go_ret
  exact qN
 obtain rfl := Option.some.inj H
 go_enter Tryd.func120, Tryd.ntmps120
 go_wp2
 go_ret
 exact qN
mutual
def expr_Expr_depths.l0 : Nat → List Int → List (S156) → Int → Int → Option (List Int)
 | 0, _, _, _, _ => none
 | k + 1, x3, x9, x10, x11 => if x11 < x10 then (if 0 ≤ x11 then (if x11 < (x9.length : Int) then (if x11 < (x3.length : Int) then ((some (x3.set (x11 : Int).toNat 1 : List Int)).bind fun y708 => ((expr_one.f ((rd_T156 x9 x11).f0)).bind fun t709 => (if t709 = true then (expr_Expr_depths.j1 k y708 x11 x9 x10 x11 true ((rd_T156 x9 x11).f0) ((rd_T156 x9 x11).f1.f0) ((rd_T156 x9 x11).f1.f1) ((rd_T156 x9 x11).f1.f2) ((rd_T156 x9 x11).f2) ((rd_T156 x9 x11).f3) ((rd_T156 x9 x11).f4)) else ((expr_two.f ((rd_T156 x9 x11).f0)).bind fun t710 => (expr_Expr_depths.j1 k y708 x11 x9 x10 x11 t710 ((rd_T156 x9 x11).f0) ((rd_T156 x9 x11).f1.f0) ((rd_T156 x9 x11).f1.f1) ((rd_T156 x9 x11).f1.f2) ((rd_T156 x9 x11).f2) ((rd_T156 x9 x11).f3) ((rd_T156 x9 x11).f4)))))) else (none)) else (none)) else (none)) else (some x3)
def expr_Expr_depths.j1 : Nat → List Int → Int → List (S156) → Int → Int → Bool → Int → Int → Int → ByteArray → ByteArray → Int → Int → Option (List Int)
 | 0, _, _, _, _, _, _, _, _, _, _, _, _, _ => none
 | k + 1, x3, x4, x9, x10, x11, x26, x708000, x708001, x708002, x708003, x708004, x708005, x708006 => if x26 = true then (if 0 ≤ x708005 then (if x708005 < (x3.length : Int) then (if 0 ≤ x4 then (if x4 < (x3.length : Int) then ((some (x3.set (x4 : Int).toNat (wrap64 (1 + (rd x3 x708005))) : List Int)).bind fun y712 => ((expr_two.f x708000).bind fun t713 => (if t713 = true then (if 0 ≤ x708006 then (if x708006 < (x3.length : Int) then (expr_Expr_depths.l0 k (y712.set (x4 : Int).toNat (mx (rd y712 x4) (wrap64 (1 + (rd y712 x708006))))) x9 x10 (wrap64 (x11 + 1))) else (none)) else (none)) else (expr_Expr_depths.l0 k y712 x9 x10 (wrap64 (x11 + 1)))))) else (none)) else (none)) else (none)) else (none)) else ((expr_two.f x708000).bind fun t717 => (if t717 = true then (if 0 ≤ x4 then (if x4 < (x3.length : Int) then (if 0 ≤ x708006 then (if x708006 < (x3.length : Int) then (expr_Expr_depths.l0 k (x3.set (x4 : Int).toNat (mx (rd x3 x4) (wrap64 (1 + (rd x3 x708006))))) x9 x10 (wrap64 (x11 + 1))) else (none)) else (none)) else (none)) else (none)) else (expr_Expr_depths.l0 k x3 x9 x10 (wrap64 (x11 + 1)))))
end
def expr_Expr_depths.f (k : Nat) (l0 : List (S156)) : Option (List Int) := if 0 ≤ (l0.length : Int) then (if ((l0.length : Int) : Int).toNat ≤ 35184372088832 then (expr_Expr_depths.l0 k (List.replicate ((l0.length : Int) : Int).toNat 0) l0 (l0.length : Int) 0) else (none)) else (none)
def expr_Expr_depths.T9 : Bool × List (List Nat × List Nat) := (true, [([], []), ([], []), ([], []), ([], []), ([2, 3], [2, 3]), ([4], [4]), ([], []), ([], []), ([7], [7]), ([6, 8], [6, 8]), ([9], [9]), ([10], [10]), ([5, 11], [5, 11]), ([0, 1, 0, 1, 2, 3, 4, 5, 6, 7, 8, 9, 10, 11, 12], [0, 1]), ([13, 12, 0, 1, 2, 3, 4, 5, 6, 7, 8, 9, 10, 11, 12], [12, 13])])
def expr_Expr_depths.B9 : List Nat := [0, 0, 0, 0, 12, 28, 0, 0, 128, 448, 960, 1984, 4092, 8191, 16383]
theorem expr_Expr_depths.tab9 : rtab .any (opsOf Tryd.f121 9) = expr_Expr_depths.T9 := by kernel_rfl
theorem expr_Expr_depths.bits9 : waitsOk expr_Expr_depths.T9.2 expr_Expr_depths.B9 = true := by kernel_rfl
set_option maxHeartbeats 8000000 in
set_option maxRecDepth 100000 in
theorem expr_Expr_depths.calls (k : Nat) (A0 : Option Addr) (c0 : Nat) (l0 : List (S156)) (r : List Int) (w : World) (hr0 : Kd.C k156 w A0 l0.length l0) (hc0 : l0.length ≤ c0) (h : expr_Expr_depths.f k l0 = some r) :
  Calls Tryd.prog 121 #[.slice A0 l0.length c0] w fun e w' => ∃ v0_ : Value, e = .returned (v0_) ∧ Kd.R (Kd.int .i64) 3 w' w.heap.size (fun _ => True) v0_ r ∧ Below w.heap.size w w' := by
 have hu156 := Tryd.underlying156
 have HR0 := Aside0.mk hr0
 have HC0 := Aside0.mk hc0
 clear hr0 hc0
 have HB := Aside0.mk (Below.refl w.heap.size w)
 have H : (if 0 ≤ (l0.length : Int) then (if ((l0.length : Int) : Int).toNat ≤ 35184372088832 then (expr_Expr_depths.l0 k (List.replicate ((l0.length : Int) : Int).toNat 0) l0 (l0.length : Int) 0) else (none)) else (none)) = some r := h
 clear h
 by_cases c2 : 0 ≤ (l0.length : Int)
 ·rw [if_pos c2] at H
  have c2b0 := eq_true c2
  have c2b1 := decide_eq_true c2
  clear c2
  by_cases c3 : ((l0.length : Int) : Int).toNat ≤ 35184372088832
  ·rw [if_pos c3] at H
   have c3b0 := eq_true c3
   have c3b1 := decide_eq_true c3
   clear c3
   obtain ⟨y703, hy703⟩ : ∃ y_ : List Int, y_ = (List.replicate ((l0.length : Int) : Int).toNat 0) := ⟨_, rfl⟩
   replace H : (expr_Expr_depths.l0 k y703 l0 (l0.length : Int) 0) = some r := by first | (rw [hy703]; with_reducible exact H) | (have H2_ := (Option.bind_some _ _).symm.trans H; rw [hy703]; with_reducible exact H2_) | (have H2_ := (Option.bind_some _ _).symm.trans H; with_reducible exact H2_) | with_reducible exact H | (rw [hy703]; exact H) | exact H
   have Ny703 := Aside0.mk hy703
   clear hy703
   have H' := Aside0.mk H
   clear H
   go_enter Tryd.func121, Tryd.ntmps121
   go_wp2_with (first | ((with_reducible refine gate_dst (N := 8) rfl ?_); refine Kd.R_make (Kd.int .i64) _ 3 rfl (N := 8) rfl 154 _ _ rfl (l0.length : Int) rfl rfl Tryd.underlying154 (.int .i64 0) 8 info3 rfl (by decide) (by omega) 0 (ok := fun _ => True) (okp := fun _ => True) rfl (fun _ hk => hk) trivial (qD) (Nat.le_trans (Nat.mul_le_mul_right _ (qD : (l0.length : Int).toNat ≤ 35184372088832)) (by omega)) (Below.refl _ _) (Nat.le_refl _) ?_; intro v704 w4 ho5 hb hg_ hnew_; clear hg_ hnew_; (first | rw [← Ny703.out] at ho5 | (simp only [Int.reduceToNat] at ho5; rw [← Ny703.out] at ho5)); have HO705 := Aside0.mk (Kd.R_lower ho5 (below_size qB)); replace HB := bst hb; clear hb ho5))
   go_loopg [11] k (fun kq v11 w' => ∃ (x3_1 : List Int) (x11_1 : Int), v11 = .int .i64 x11_1 ∧ Aside0 (expr_Expr_depths.l0 kq x3_1 l0 (l0.length : Int) x11_1 = some r) ∧ Aside0 (kq ≤ k) ∧ Aside0 (Kd.R (Kd.int .i64) 3 w' w.heap.size (fun _ => True) v704 x3_1) ∧ Aside0 (Below w.heap.size w w'))
   case atStart => exact ⟨(y703), (0), qE, H', ⟨Nat.le_refl _⟩, ⟨by (with_reducible repeat (first | apply Kd.R_alloc | apply Kd.R_drewN | apply Kd.R_drew)); exact HO705.out⟩, ⟨qB⟩⟩
   case round =>
    clear H'
    try clear p2
    obtain ⟨x3_1, x11_1, rfl, HA, HK1, HO_3, HB⟩ := hrel
    cases gk with
    | zero => exact absurd HA.out (by simp [expr_Expr_depths.l0])
    | succ k1 =>
     have H := HA.out; clear HA; simp only [expr_Expr_depths.l0] at H
     by_cases c6 : x11_1 < (l0.length : Int)
     ·rw [if_pos c6] at H; have c6b0 := decide_eq_true c6; clear c6
      by_cases c7 : 0 ≤ x11_1
      ·rw [if_pos c7] at H; have c7b0 := decide_eq_true c7; clear c7
       by_cases c8 : x11_1 < (l0.length : Int)
       ·rw [if_pos c8] at H; have c8b0 := decide_eq_true c8; clear c8
        by_cases c9 : x11_1 < (x3_1.length : Int)
        ·rw [if_pos c9] at H; have c9b0 := decide_eq_true c9; clear c9; obtain ⟨y708, hy708⟩ : ∃ y_ : List Int, y_ = (x3_1.set (x11_1 : Int).toNat 1) := ⟨_, rfl⟩; replace H : ((expr_one.f ((rd_T156 l0 x11_1).f0)).bind fun t709 => (if t709 = true then (expr_Expr_depths.j1 k1 y708 x11_1 l0 (l0.length : Int) x11_1 true ((rd_T156 l0 x11_1).f0) ((rd_T156 l0 x11_1).f1.f0) ((rd_T156 l0 x11_1).f1.f1) ((rd_T156 l0 x11_1).f1.f2) ((rd_T156 l0 x11_1).f2) ((rd_T156 l0 x11_1).f3) ((rd_T156 l0 x11_1).f4)) else ((expr_two.f ((rd_T156 l0 x11_1).f0)).bind fun t710 => (expr_Expr_depths.j1 k1 y708 x11_1 l0 (l0.length : Int) x11_1 t710 ((rd_T156 l0 x11_1).f0) ((rd_T156 l0 x11_1).f1.f0) ((rd_T156 l0 x11_1).f1.f1) ((rd_T156 l0 x11_1).f1.f2) ((rd_T156 l0 x11_1).f2) ((rd_T156 l0 x11_1).f3) ((rd_T156 l0 x11_1).f4))))) = some r := by first | (rw [hy708]; with_reducible exact H) | (have H2_ := (Option.bind_some _ _).symm.trans H; rw [hy708]; with_reducible exact H2_) | (have H2_ := (Option.bind_some _ _).symm.trans H; with_reducible exact H2_) | with_reducible exact H | (rw [hy708]; exact H) | exact H
         have Ny708 := Aside0.mk hy708; clear hy708; have HC11 := Aside0.mk H; clear H; have p706 : 0 ≤ (x11_1 : Int) := qD; have q706 : x11_1 < (l0.length : Int) := qD; obtain ⟨ad706, e706, hx706_0, hx706_1, hx706_2, hx706_3, hx706_4, hx706_5, hx706_6⟩ := at_T156 (Kd.C_below HR0.out HB.out) x11_1 p706 q706; cases e706; replace p706 := eq_true p706; replace q706 := eq_true q706
         go_upto_region 6 with (first | ((with_reducible refine gd 5 rfl ?_); refine bx 5 #[.int .i64 0, .int .i64 0, .int .i64 0, .string (⟨#[]⟩ : ByteArray), .string (⟨#[]⟩ : ByteArray), .int .i64 0, .int .i64 0] 156 ?_; intro gb707 hg w12 hbox hb; have BK707 := Aside0.mk (hbox); have GW707 := geS hg; have GE707 := geS hg; replace HO_3 := rb HO_3 hb; replace HB := bst hb; clear hb hbox hg; obtain ⟨_, _, _, _, _, _, _, _, _, _, _, _, _, _⟩ := cells7 BK707.out) | ((with_reducible refine gate_store (t := 156) (p := 5) rfl ?_); refine store_event (t := 156) (p := 5) (v := ?vo_w14) (w1 := (((((((w12.setCell ⟨gb707, 0, none⟩ (.int .i64 ((rd_T156 l0 x11_1).f0))).setCell ⟨gb707, 1, none⟩ (.int .i64 ((rd_T156 l0 x11_1).f1.f0))).setCell ⟨gb707, 2, none⟩ (.int .i64 ((rd_T156 l0 x11_1).f1.f1))).setCell ⟨gb707, 3, none⟩ (.string ((rd_T156 l0 x11_1).f1.f2))).setCell ⟨gb707, 4, none⟩ (.string ((rd_T156 l0 x11_1).f2))).setCell ⟨gb707, 5, none⟩ (.int .i64 ((rd_T156 l0 x11_1).f3))).setCell ⟨gb707, 6, none⟩ (.int .i64 ((rd_T156 l0 x11_1).f4)))) ?hg ?ho ?hn ?hr ?_; (case ho => rfl); (case hg => rfl); (case hn => rfl); (case hr => first | (go_simp; done) | (go_simp; rfl)); intro w14 hw; have n0_ : Aside0 (Kd.R (Kd.int .i64) 3 w14 w.heap.size (fun _ => True) v704 x3_1) := ⟨(by rw [hw]; exact (by (with_reducible repeat (first | apply Kd.R_alloc | apply Kd.R_drewN | apply Kd.R_drew)); exact Kd.R_mono (Kd.R_far (p := ⟨gb707, 6, none⟩) (Kd.R_far (p := ⟨gb707, 5, none⟩) (Kd.R_far (p := ⟨gb707, 4, none⟩) (Kd.R_far (p := ⟨gb707, 3, none⟩) (Kd.R_far (p := ⟨gb707, 2, none⟩) (Kd.R_far (p := ⟨gb707, 1, none⟩) (Kd.R_far (p := ⟨gb707, 0, none⟩) (Kd.R_types HO_3.out BK707.out (by decide)) (fun _ hk => hk.2) (.int .i64 ((rd_T156 l0 x11_1).f0))) (fun _ hk => hk.2) (.int .i64 ((rd_T156 l0 x11_1).f1.f0))) (fun _ hk => hk.2) (.int .i64 ((rd_T156 l0 x11_1).f1.f1))) (fun _ hk => hk.2) (.string ((rd_T156 l0 x11_1).f1.f2))) (fun _ hk => hk.2) (.string ((rd_T156 l0 x11_1).f2))) (fun _ hk => hk.2) (.int .i64 ((rd_T156 l0 x11_1).f3))) (fun _ hk => hk.2) (.int .i64 ((rd_T156 l0 x11_1).f4))) (fun _ hk => trivial)))⟩; have n1_ : Aside0 (w14.heap[gb707]? = some (.cells #[.int .i64 ((rd_T156 l0 x11_1).f0), .int .i64 ((rd_T156 l0 x11_1).f1.f0), .int .i64 ((rd_T156 l0 x11_1).f1.f1), .string ((rd_T156 l0 x11_1).f1.f2), .string ((rd_T156 l0 x11_1).f2), .int .i64 ((rd_T156 l0 x11_1).f3), .int .i64 ((rd_T156 l0 x11_1).f4)] 156 (0, 0))) := ⟨(by rw [hw]; exact qP)⟩; have n2_ : Aside0 (Below w.heap.size w w14) := ⟨(by rw [hw]; exact qB)⟩; clear hw; clear HO_3; clear BK707; clear HB; have HO_3 := n0_; have BK707 := n1_; have HB := n2_; clear n0_ n1_ n2_; have p10 : 0 ≤ (x11_1 : Int) := qD; have q10 : (x11_1 : Int) < ((x3_1.length : Int) : Int) := qD; obtain ⟨go10, co10, eo10, gb10, gl10, cl10, HG10⟩ := Kd.R_form HO_3.out (by omega); (first | cases eo10 | (injection eo10 with ea_ en_ ec_; (first | subst ea_ | (injection ea_ with ea_; subst ea_)); subst ec_; clear en_)); have GB10 := Aside0.mk gb10; have GG10 := Aside0.mk HG10; clear gb10 gl10 HG10; obtain ⟨hx10_0, hf10_0⟩ := Kd.R_celln 0 HO_3.out (x11_1 : Int) p10 q10; replace p10 := eq_true p10; replace q10 := eq_true q10; obtain ⟨hy15_, hz15_⟩ := Kd.R_celln 0 HO_3.out (x11_1 : Int) (qD) (qD); have HP15 := Kd.R_putg HO_3.out (x11_1 : Int) 1) | ((with_reducible refine gate_store (t := 3) (p := 18) rfl ?_); refine store_event (t := 3) (p := 18) (v := ?vo_w16) (w1 := (w14.setCell ⟨go10, (x11_1 : Int).toNat, none⟩ (.int .i64 1))) ?hg ?ho ?hn ?hr ?_; (case ho => rfl); (case hg => rfl); (case hn => rfl); (case hr => first | (go_simp; done) | (go_simp; rfl)); intro w16 hw; have hg : w14.grownBy w16 (some go10) := (by rw [hw]; exact HP15.2); have hp_ : Kd.R (Kd.int .i64) 3 w16 w.heap.size (fun _ => True) (.slice (some ⟨go10, 0, none⟩) x3_1.length co10) y708 := (by rw [hw, Ny708.out]; exact HP15.1); clear HP15; have n0_ := Aside0.mk (hp_); have n1_ := Aside0.mk (blk_grown (g := gb707) (o := .cells #[.int .i64 ((rd_T156 l0 x11_1).f0), .int .i64 ((rd_T156 l0 x11_1).f1.f0), .int .i64 ((rd_T156 l0 x11_1).f1.f1), .string ((rd_T156 l0 x11_1).f1.f2), .string ((rd_T156 l0 x11_1).f2), .int .i64 ((rd_T156 l0 x11_1).f3), .int .i64 ((rd_T156 l0 x11_1).f4)] 156 (0, 0)) qK hg (Kd.R_ne HO_3.out BK707.out (by decide))); have n2_ := Aside0.mk ((by rw [hw]; exact below_set (HB.out) GB10.out : Below w.heap.size w w16)); clear HO_3; clear BK707; clear HB; have HO_3 := n0_; have BK707 := n1_; have HB := n2_; clear n0_ n1_ n2_; clear hg hw hp_))
         (try simp only [Act.put, List.setIfInBounds_toArray, List.set_cons_zero, List.set_cons_succ])
         go_cut [26] (fun v26 wc => ∃ (kq : Nat) (x26_10 : Bool), v26 = .bool x26_10 ∧ Aside0 (expr_Expr_depths.j1 kq y708 x11_1 l0 (l0.length : Int) x11_1 x26_10 ((rd_T156 l0 x11_1).f0) ((rd_T156 l0 x11_1).f1.f0) ((rd_T156 l0 x11_1).f1.f1) ((rd_T156 l0 x11_1).f1.f2) ((rd_T156 l0 x11_1).f2) ((rd_T156 l0 x11_1).f3) ((rd_T156 l0 x11_1).f4) = some r) ∧ Aside0 (kq ≤ k1) ∧ Aside0 (Kd.R (Kd.int .i64) 3 wc w.heap.size (fun _ => True) (.slice (some ⟨go10, 0, none⟩) x3_1.length co10) y708) ∧ Aside0 (wc.heap[gb707]? = some (.cells #[.int .i64 ((rd_T156 l0 x11_1).f0), .int .i64 ((rd_T156 l0 x11_1).f1.f0), .int .i64 ((rd_T156 l0 x11_1).f1.f1), .string ((rd_T156 l0 x11_1).f1.f2), .string ((rd_T156 l0 x11_1).f2), .int .i64 ((rd_T156 l0 x11_1).f3), .int .i64 ((rd_T156 l0 x11_1).f4)] 156 (0, 0))) ∧ Aside0 (Below w.heap.size w wc))
         case first =>
          have H := HC11.out; clear HC11; replace H := Option.bind_eq_some_iff.mp H; obtain ⟨t709, A170, H⟩ := H; (try dsimp -simprocs only at H); have A17 := Aside0.mk A170; clear A170
          by_cases c18 : t709 = true
          ·subst c18; rw [if_pos rfl] at H; have H' := Aside0.mk H; clear H; obtain ⟨_, _, _, _, _, _, _, _, _, _, _, _, _, _⟩ := cells7 BK707.out
           go_wp2_with (first | ((with_reducible refine gc 119 rfl ?_); refine gl (some 21) #[.int .i64 ((rd_T156 l0 x11_1).f0)] Tryd.func119 ?_; (with_reducible refine (expr_one.calls ((rd_T156 l0 x11_1).f0) true _ A17.out).mono ?_); rintro e w' ⟨rfl, ⟨nd, rfl⟩⟩; refine ⟨_, rfl, ?_⟩))
           go_meet
           case rel => exact ⟨_, (true), qE, H', ⟨by have := HK1.out; first | omega | exact Nat.le_refl _⟩, ⟨by (with_reducible repeat (first | apply Kd.R_alloc | apply Kd.R_drewN | apply Kd.R_drew)); exact HO_3.out⟩, ⟨qK⟩, ⟨qB⟩⟩
          replace c18 := Bool.eq_false_iff.mpr c18; subst c18; rw [if_neg (show ¬ (false = true) by decide)] at H; replace H := Option.bind_eq_some_iff.mp H; obtain ⟨t710, A200, H⟩ := H; (try dsimp -simprocs only at H); have A20 := Aside0.mk A200; clear A200; have H' := Aside0.mk H; clear H; obtain ⟨_, _, _, _, _, _, _, _, _, _, _, _, _, _⟩ := cells7 BK707.out
          go_wp2_with (first | ((with_reducible refine gc 119 rfl ?_); refine gl (some 21) #[.int .i64 ((rd_T156 l0 x11_1).f0)] Tryd.func119 ?_; (with_reducible refine (expr_one.calls ((rd_T156 l0 x11_1).f0) false _ A17.out).mono ?_); rintro e w' ⟨rfl, ⟨nd, rfl⟩⟩; refine ⟨_, rfl, ?_⟩) | (go_at_call 120; (with_reducible refine (expr_two.calls ((rd_T156 l0 x11_1).f0) t710 _ A20.out).mono ?_); rintro e w' ⟨rfl, ⟨nd, rfl⟩⟩))
          go_meet
          case rel => exact ⟨_, (t710), qE, H', ⟨by have := HK1.out; first | omega | exact Nat.le_refl _⟩, ⟨by (with_reducible repeat (first | apply Kd.R_alloc | apply Kd.R_drewN | apply Kd.R_drew)); exact HO_3.out⟩, ⟨qK⟩, ⟨qB⟩⟩
         case rest =>
          clear HC11
          try clear p1
          try clear q1
          try clear hx1
          try clear hf1
          try clear p2 p2
          try clear p7
          try clear q7
          try clear hx7
          try clear p10 p10
          try clear q10 q10
          try clear hx10
          try clear hf10
          try clear hx10_0
          try clear hx706_0
          try clear hx706_1
          try clear hx706_2
          try clear hx706_3
          try clear hx706_4
          try clear hx706_5
          try clear hx706_6
          try clear p706
          try clear q706
          obtain ⟨kq, x26_10, rfl, HA, HJ10, HO_3, BK707, HB⟩ := hcut; have hl3_10 := (Kd.R_reads' HO_3.out).1; rw [hl3_10] at HO_3; (try simp only [hl3_10]); (try simp only [hl3_10] at BK707); cases kq with
          | zero => exact absurd HA.out (by simp [expr_Expr_depths.j1])
          | succ kj10 =>
           have H := HA.out; clear HA; simp only [expr_Expr_depths.j1] at H
           by_cases c22 : x26_10 = true
           ·subst c22; rw [if_pos rfl] at H; replace H := iD H
            rcases H with ⟨c23b0, H⟩ | ⟨c23b0, H⟩
            ·by_cases c24 : ((rd_T156 l0 x11_1).f3) < (y708.length : Int)
             ·rw [if_pos c24] at H; have c24b0 := decide_eq_true c24; clear c24; replace H := iD H
              rcases H with ⟨c25b0, H⟩ | ⟨c25b0, H⟩
              ·by_cases c26 : x11_1 < (y708.length : Int)
               ·rw [if_pos c26] at H; have c26b0 := decide_eq_true c26; clear c26; obtain ⟨y712, hy712⟩ : ∃ y_ : List Int, y_ = (y708.set (x11_1 : Int).toNat (wrap64 (1 + (rd y708 ((rd_T156 l0 x11_1).f3))))) := ⟨_, rfl⟩; replace H : ((expr_two.f ((rd_T156 l0 x11_1).f0)).bind fun t713 => (if t713 = true then (if 0 ≤ ((rd_T156 l0 x11_1).f4) then (if ((rd_T156 l0 x11_1).f4) < (y708.length : Int) then (expr_Expr_depths.l0 kj10 (y712.set (x11_1 : Int).toNat (mx (rd y712 x11_1) (wrap64 (1 + (rd y712 ((rd_T156 l0 x11_1).f4)))))) l0 (l0.length : Int) (wrap64 (x11_1 + 1))) else (none)) else (none)) else (expr_Expr_depths.l0 kj10 y712 l0 (l0.length : Int) (wrap64 (x11_1 + 1))))) = some r := by first | (rw [hy712]; with_reducible exact H) | (have H2_ := (Option.bind_some _ _).symm.trans H; rw [hy712]; with_reducible exact H2_) | (have H2_ := (Option.bind_some _ _).symm.trans H; with_reducible exact H2_) | with_reducible exact H | (rw [hy712]; exact H) | exact H
                have Ny712 := Aside0.mk hy712; clear hy712; replace H := Option.bind_eq_some_iff.mp H; obtain ⟨t713, A280, H⟩ := H; (try dsimp -simprocs only at H); have A28 := Aside0.mk A280; clear A280
                by_cases c29 : t713 = true
                ·subst c29; rw [if_pos rfl] at H; replace H := iD H
                 rcases H with ⟨c30b0, H⟩ | ⟨c30b0, H⟩
                 ·by_cases c31 : ((rd_T156 l0 x11_1).f4) < (y708.length : Int)
                  ·rw [if_pos c31] at H; have c31b0 := decide_eq_true c31; clear c31; obtain ⟨ji32, hji32⟩ : ∃ j_ : Int, (mx (rd y712 x11_1) (wrap64 (1 + (rd y712 ((rd_T156 l0 x11_1).f4))))) = j_ := ⟨_, rfl⟩; replace H : (expr_Expr_depths.l0 kj10 (y712.set (x11_1 : Int).toNat (ji32)) l0 (l0.length : Int) (wrap64 (x11_1 + 1))) = some r := by first | (rw [hji32] at H; exact H) | (simp only [hji32] at H ⊢; exact H)
                   (try rw [hji32] at A28); have hji32_ : (if (rd y712 x11_1) < (wrap64 (1 + (rd y712 ((rd_T156 l0 x11_1).f4)))) then (wrap64 (1 + (rd y712 ((rd_T156 l0 x11_1).f4)))) else (rd y712 x11_1)) = ji32 := hji32; obtain ⟨y716, hy716⟩ : ∃ y_ : List Int, y_ = (y712.set (x11_1 : Int).toNat (ji32)) := ⟨_, rfl⟩; replace H : (expr_Expr_depths.l0 kj10 y716 l0 (l0.length : Int) (wrap64 (x11_1 + 1))) = some r := by first | (rw [hy716]; with_reducible exact H) | (have H2_ := (Option.bind_some _ _).symm.trans H; rw [hy716]; with_reducible exact H2_) | (have H2_ := (Option.bind_some _ _).symm.trans H; with_reducible exact H2_) | with_reducible exact H | (rw [hy716]; exact H) | exact H
                   have Ny716 := Aside0.mk hy716; clear hy716; have H' := Aside0.mk H; clear H; obtain ⟨_, _, _, _, _, _, _, _, _, _, _, _, _, _⟩ := cells7 BK707.out; have p711 : 0 ≤ (((rd_T156 l0 x11_1).f3) : Int) := qD; have q711 : ((rd_T156 l0 x11_1).f3) < (y708.length : Int) := qD; obtain ⟨ad711, e711, hx711_0⟩ := Kd.at_int (Kd.R_reads' HO_3.out).2.2 ((rd_T156 l0 x11_1).f3) p711 q711; obtain rfl : (⟨go10, 0, none⟩ : Addr) = ad711 := (by injection e711); (first | simp only [add_plain] at hx711_0 | simp only [add_at] at hx711_0 | simp only [Addr.add, Nat.zero_add] at hx711_0 | skip); replace p711 := eq_true p711; replace q711 := eq_true q711; have p27 : 0 ≤ (x11_1 : Int) := qD; have q27 : (x11_1 : Int) < ((y708.length : Int) : Int) := qD; obtain ⟨hx27_0, hf27_0⟩ := Kd.R_celln 0 HO_3.out (x11_1 : Int) p27 q27; replace p27 := eq_true p27; replace q27 := eq_true q27; have HP35 := Kd.R_putg HO_3.out (x11_1 : Int) (wrap64 (1 + (rd y708 ((rd_T156 l0 x11_1).f3))))
                   try go_wp2_with (first | ((with_reducible refine gate_store (t := 3) (p := 35) rfl ?_); refine store_event (t := 3) (p := 35) (v := ?vo_w36) (w1 := (wc.setCell ⟨go10, (x11_1 : Int).toNat, none⟩ (.int .i64 (wrap64 (1 + (rd y708 ((rd_T156 l0 x11_1).f3))))))) ?hg ?ho ?hn ?hr ?_; (case ho => rfl); (case hg => rfl); (case hn => rfl); (case hr => first | (go_simp; done) | (go_simp; rfl)); intro w36 hw; have hg : wc.grownBy w36 (some go10) := (by rw [hw]; exact HP35.2); have hp_ : Kd.R (Kd.int .i64) 3 w36 w.heap.size (fun _ => True) (.slice (some ⟨go10, 0, none⟩) y708.length co10) y712 := (by rw [hw, Ny712.out]; exact HP35.1); clear HP35; have n0_ := Aside0.mk (hp_); have n1_ := Aside0.mk (blk_grown (g := gb707) (o := .cells #[.int .i64 ((rd_T156 l0 x11_1).f0), .int .i64 ((rd_T156 l0 x11_1).f1.f0), .int .i64 ((rd_T156 l0 x11_1).f1.f1), .string ((rd_T156 l0 x11_1).f1.f2), .string ((rd_T156 l0 x11_1).f2), .int .i64 ((rd_T156 l0 x11_1).f3), .int .i64 ((rd_T156 l0 x11_1).f4)] 156 (0, 0)) qK hg (Kd.R_ne HO_3.out BK707.out (by decide))); have n2_ := Aside0.mk ((by rw [hw]; exact below_set (HB.out) GB10.out : Below w.heap.size w w36)); clear HO_3; clear BK707; clear HB; have HO_3 := n0_; have BK707 := n1_; have HB := n2_; clear n0_ n1_ n2_; clear hg hw hp_; obtain ⟨_, _, _, _, _, _, _, _, _, _, _, _, _, _⟩ := cells7 BK707.out) | ((with_reducible refine gc 120 rfl ?_); refine gl (some 38) #[.int .i64 ((rd_T156 l0 x11_1).f0)] Tryd.func120 ?_; (with_reducible refine (expr_two.calls ((rd_T156 l0 x11_1).f0) true _ A28.out).mono ?_); rintro e w' ⟨rfl, ⟨nd, rfl⟩⟩; refine ⟨_, rfl, ?_⟩; (try (rw [drewN_self w36]; generalize hq_ : World.drewN w36 _ = w36; have n0_ : Aside0 (Kd.R (Kd.int .i64) 3 w36 w.heap.size (fun _ => True) (.slice (some ⟨go10, 0, none⟩) y708.length co10) y712) := ⟨by rw [← hq_]; exact (by (with_reducible repeat (first | apply Kd.R_alloc | apply Kd.R_drewN | apply Kd.R_drew)); exact HO_3.out)⟩; have n1_ : Aside0 (w36.heap[gb707]? = some (.cells #[.int .i64 ((rd_T156 l0 x11_1).f0), .int .i64 ((rd_T156 l0 x11_1).f1.f0), .int .i64 ((rd_T156 l0 x11_1).f1.f1), .string ((rd_T156 l0 x11_1).f1.f2), .string ((rd_T156 l0 x11_1).f2), .int .i64 ((rd_T156 l0 x11_1).f3), .int .i64 ((rd_T156 l0 x11_1).f4)] 156 (0, 0))) := ⟨by rw [← hq_]; exact qK⟩; have n2_ : Aside0 (Below w.heap.size w w36) := ⟨by rw [← hq_]; exact qB⟩; clear HO_3 BK707 HB hq_; have HO_3 := n0_; have BK707 := n1_; have HB := n2_; clear n0_ n1_ n2_))))
                   have n0_ := Aside0.mk (Kd.R_drew HO_3.out); have n1_ := Aside0.mk (blk_drew BK707.out); have n2_ := Aside0.mk (below_drew1 HB.out); clear HO_3; clear BK707; clear HB; have HO_3 := n0_; have BK707 := n1_; have HB := n2_; clear n0_ n1_ n2_; have p714 : 0 ≤ (x11_1 : Int) := qD; have q714 : x11_1 < (y712.length : Int) := (by have h_ : (x11_1 : Int) < ((y708.length : Int) : Int) := qD; first | (have e_ := (Kd.R_reads' HO_3.out).1; omega) | simpa only [Ny712.out, List.length_set] using h_); have ql714 : ((x11_1 : Int) < ((y708.length : Int) : Int)) = True := eq_true (qD); obtain ⟨ad714, e714, hx714_0⟩ := Kd.at_int (Kd.R_reads' HO_3.out).2.2 x11_1 p714 q714; obtain rfl : (⟨go10, 0, none⟩ : Addr) = ad714 := (by injection e714); (first | simp only [add_plain] at hx714_0 | simp only [add_at] at hx714_0 | simp only [Addr.add, Nat.zero_add] at hx714_0 | skip); replace p714 := eq_true p714; replace q714 := eq_true q714; have p715 : 0 ≤ (((rd_T156 l0 x11_1).f4) : Int) := qD; have q715 : ((rd_T156 l0 x11_1).f4) < (y712.length : Int) := (by have h_ : (((rd_T156 l0 x11_1).f4) : Int) < ((y708.length : Int) : Int) := qD; first | (have e_ := (Kd.R_reads' HO_3.out).1; omega) | simpa only [Ny712.out, List.length_set] using h_); have ql715 : ((((rd_T156 l0 x11_1).f4) : Int) < ((y708.length : Int) : Int)) = True := eq_true (qD); obtain ⟨ad715, e715, hx715_0⟩ := Kd.at_int (Kd.R_reads' HO_3.out).2.2 ((rd_T156 l0 x11_1).f4) p715 q715
                   obtain rfl : (⟨go10, 0, none⟩ : Addr) = ad715 := (by injection e715); (first | simp only [add_plain] at hx715_0 | simp only [add_at] at hx715_0 | simp only [Addr.add, Nat.zero_add] at hx715_0 | skip); replace p715 := eq_true p715; replace q715 := eq_true q715; have p33 : 0 ≤ (x11_1 : Int) := qD; have q33 : (x11_1 : Int) < ((y708.length : Int) : Int) := qD; obtain ⟨hx33_0, hf33_0⟩ := Kd.R_celln 0 HO_3.out (x11_1 : Int) p33 q33; replace p33 := eq_true p33; replace q33 := eq_true q33; have HP39 := Kd.R_putn HO_3.out (x11_1 : Int) ji32; rw [← Ny716.out] at HP39; have HQ39 := Aside0.mk HP39; clear HP39
                   refine start_ (n := 15) (S := fun w' => w'.cell? ⟨gb707, 0, none⟩ = some (.int .i64 ((rd_T156 l0 x11_1).f0)) ∧ w'.cell? ⟨gb707, 1, none⟩ = some (.int .i64 ((rd_T156 l0 x11_1).f1.f0)) ∧ w'.cell? ⟨gb707, 2, none⟩ = some (.int .i64 ((rd_T156 l0 x11_1).f1.f1)) ∧ w'.cell? ⟨gb707, 3, none⟩ = some (.string ((rd_T156 l0 x11_1).f1.f2)) ∧ w'.cell? ⟨gb707, 4, none⟩ = some (.string ((rd_T156 l0 x11_1).f2)) ∧ w'.cell? ⟨gb707, 5, none⟩ = some (.int .i64 ((rd_T156 l0 x11_1).f3)) ∧ w'.cell? ⟨gb707, 6, none⟩ = some (.int .i64 ((rd_T156 l0 x11_1).f4)) ∧ w'.cell? ⟨go10, (x11_1).toNat, none⟩ = some (.int .i64 (rd y712 x11_1)) ∧ w'.cell? ⟨go10, (((rd_T156 l0 x11_1).f4)).toNat, none⟩ = some (.int .i64 (rd y712 ((rd_T156 l0 x11_1).f4)))) (ds := [14]) _ (by kernel_rfl) rfl (fls 15) ⟨(blk_cell BK707.out 0).trans rfl, (blk_cell BK707.out 1).trans rfl, (blk_cell BK707.out 2).trans rfl, (blk_cell BK707.out 3).trans rfl, (blk_cell BK707.out 4).trans rfl, (blk_cell BK707.out 5).trans rfl, (blk_cell BK707.out 6).trans rfl, hx714_0, hx715_0⟩ (fun hHeld => ?_); refine with_tabW expr_Expr_depths.tab9 expr_Expr_depths.bits9 (fun HT_ HW_ => ?_)
                   generalize w36.drew = w38 at HO_3 BK707 HB HQ39 hf33_0 hx33_0 hx714_0 hx715_0 hHeld ⊢
                   refine pu 0 39 ?_; refine pu 1 40 ?_; refine pu 2 41 ?_; refine pu 3 42 ?_; refine pu 4 43 ?_; refine pu 6 45 ?_; refine pu 7 46 ?_; refine tk 5 44 ?_; refine tk 8 47 ?_; refine pu 9 48 ?_; refine tk 10 49 ?_; refine pu 11 50 ?_; refine pu 12 51 ?_; refine pu 13 52 ?_; refine last_ (i := 14) (N := none) #[true, true, true, true, true, true, true, true, true, true, true, true, true, true, true] rfl rfl (one_of HT_.out (by kernel_rfl)) (by decide) (fun K hK => ?_); refine skip_ (w1 := ?_) (by rfl) rfl ?_ ?_; rotate_left
                   ·go_simp
                    rfl
                   refine hK.out _ _ ?_; clear hK K; refine done_ (done_of HT_.out (by kernel_rfl)) ?_
                   try go_wp2
                   (try simp only [← hl3_10])
                   go_roundg kj10
                   case measure => have := HK1.out; have := HJ10.out; omega
                   case rel => exact ⟨(y716), (wrap64 (x11_1 + 1)), qE, H', ⟨by have := HK1.out; have := HJ10.out; omega⟩, ⟨by (try simp only [hl3_10]); (with_reducible repeat (first | apply Kd.R_alloc | apply Kd.R_drewN | apply Kd.R_drew)); exact HQ39.out⟩, ⟨qB⟩⟩
                  rw [if_neg c31] at H; exact absurd H (by simp)
                 exact absurd H (by simp)
                replace c29 := Bool.eq_false_iff.mpr c29; subst c29; rw [if_neg (show ¬ (false = true) by decide)] at H; have H' := Aside0.mk H; clear H; obtain ⟨_, _, _, _, _, _, _, _, _, _, _, _, _, _⟩ := cells7 BK707.out; have p711 : 0 ≤ (((rd_T156 l0 x11_1).f3) : Int) := qD; have q711 : ((rd_T156 l0 x11_1).f3) < (y708.length : Int) := qD; obtain ⟨ad711, e711, hx711_0⟩ := Kd.at_int (Kd.R_reads' HO_3.out).2.2 ((rd_T156 l0 x11_1).f3) p711 q711; obtain rfl : (⟨go10, 0, none⟩ : Addr) = ad711 := (by injection e711); (first | simp only [add_plain] at hx711_0 | simp only [add_at] at hx711_0 | simp only [Addr.add, Nat.zero_add] at hx711_0 | skip); replace p711 := eq_true p711; replace q711 := eq_true q711; have p27 : 0 ≤ (x11_1 : Int) := qD; have q27 : (x11_1 : Int) < ((y708.length : Int) : Int) := qD; obtain ⟨hx27_0, hf27_0⟩ := Kd.R_celln 0 HO_3.out (x11_1 : Int) p27 q27; replace p27 := eq_true p27; replace q27 := eq_true q27; have HP41 := Kd.R_putg HO_3.out (x11_1 : Int) (wrap64 (1 + (rd y708 ((rd_T156 l0 x11_1).f3))))
                go_wp2_with (first | ((with_reducible refine gate_store (t := 3) (p := 35) rfl ?_); refine store_event (t := 3) (p := 35) (v := ?vo_w42) (w1 := (wc.setCell ⟨go10, (x11_1 : Int).toNat, none⟩ (.int .i64 (wrap64 (1 + (rd y708 ((rd_T156 l0 x11_1).f3))))))) ?hg ?ho ?hn ?hr ?_; (case ho => rfl); (case hg => rfl); (case hn => rfl); (case hr => first | (go_simp; done) | (go_simp; rfl)); intro w42 hw; have hg : wc.grownBy w42 (some go10) := (by rw [hw]; exact HP41.2); have hp_ : Kd.R (Kd.int .i64) 3 w42 w.heap.size (fun _ => True) (.slice (some ⟨go10, 0, none⟩) y708.length co10) y712 := (by rw [hw, Ny712.out]; exact HP41.1); clear HP41; have n0_ := Aside0.mk (hp_); have n1_ := Aside0.mk (blk_grown (g := gb707) (o := .cells #[.int .i64 ((rd_T156 l0 x11_1).f0), .int .i64 ((rd_T156 l0 x11_1).f1.f0), .int .i64 ((rd_T156 l0 x11_1).f1.f1), .string ((rd_T156 l0 x11_1).f1.f2), .string ((rd_T156 l0 x11_1).f2), .int .i64 ((rd_T156 l0 x11_1).f3), .int .i64 ((rd_T156 l0 x11_1).f4)] 156 (0, 0)) qK hg (Kd.R_ne HO_3.out BK707.out (by decide))); have n2_ := Aside0.mk ((by rw [hw]; exact below_set (HB.out) GB10.out : Below w.heap.size w w42)); clear HO_3; clear BK707; clear HB; have HO_3 := n0_; have BK707 := n1_; have HB := n2_; clear n0_ n1_ n2_; clear hg hw hp_; obtain ⟨_, _, _, _, _, _, _, _, _, _, _, _, _, _⟩ := cells7 BK707.out) | ((with_reducible refine gc 120 rfl ?_); refine gl (some 38) #[.int .i64 ((rd_T156 l0 x11_1).f0)] Tryd.func120 ?_; (with_reducible refine (expr_two.calls ((rd_T156 l0 x11_1).f0) false _ A28.out).mono ?_); rintro e w' ⟨rfl, ⟨nd, rfl⟩⟩; refine ⟨_, rfl, ?_⟩))
                (try simp only [← hl3_10])
                go_roundg kj10
                case measure => have := HK1.out; have := HJ10.out; omega
                case rel => exact ⟨(y712), (wrap64 (x11_1 + 1)), qE, H', ⟨by have := HK1.out; have := HJ10.out; omega⟩, ⟨by (try simp only [hl3_10]); (with_reducible repeat (first | apply Kd.R_alloc | apply Kd.R_drewN | apply Kd.R_drew)); exact HO_3.out⟩, ⟨qB⟩⟩
               rw [if_neg c26] at H; exact absurd H (by simp)
              exact absurd H (by simp)
             rw [if_neg c24] at H; exact absurd H (by simp)
            exact absurd H (by simp)
           replace c22 := Bool.eq_false_iff.mpr c22; subst c22; rw [if_neg (show ¬ (false = true) by decide)] at H; replace H := Option.bind_eq_some_iff.mp H; obtain ⟨t717, A440, H⟩ := H; (try dsimp -simprocs only at H); have A44 := Aside0.mk A440; clear A440
           by_cases c45 : t717 = true
           ·subst c45; rw [if_pos rfl] at H; replace H := iD H
            rcases H with ⟨c46b0, H⟩ | ⟨c46b0, H⟩
            ·by_cases c47 : x11_1 < (y708.length : Int)
             ·rw [if_pos c47] at H; have c47b0 := decide_eq_true c47; clear c47; replace H := iD H
              rcases H with ⟨c48b0, H⟩ | ⟨c48b0, H⟩
              ·by_cases c49 : ((rd_T156 l0 x11_1).f4) < (y708.length : Int)
               ·rw [if_pos c49] at H; have c49b0 := decide_eq_true c49; clear c49; obtain ⟨ji50, hji50⟩ : ∃ j_ : Int, (mx (rd y708 x11_1) (wrap64 (1 + (rd y708 ((rd_T156 l0 x11_1).f4))))) = j_ := ⟨_, rfl⟩; replace H : (expr_Expr_depths.l0 kj10 (y708.set (x11_1 : Int).toNat (ji50)) l0 (l0.length : Int) (wrap64 (x11_1 + 1))) = some r := by first | (rw [hji50] at H; exact H) | (simp only [hji50] at H ⊢; exact H)
                (try rw [hji50] at A44); have hji50_ : (if (rd y708 x11_1) < (wrap64 (1 + (rd y708 ((rd_T156 l0 x11_1).f4)))) then (wrap64 (1 + (rd y708 ((rd_T156 l0 x11_1).f4)))) else (rd y708 x11_1)) = ji50 := hji50; obtain ⟨y720, hy720⟩ : ∃ y_ : List Int, y_ = (y708.set (x11_1 : Int).toNat (ji50)) := ⟨_, rfl⟩; replace H : (expr_Expr_depths.l0 kj10 y720 l0 (l0.length : Int) (wrap64 (x11_1 + 1))) = some r := by first | (rw [hy720]; with_reducible exact H) | (have H2_ := (Option.bind_some _ _).symm.trans H; rw [hy720]; with_reducible exact H2_) | (have H2_ := (Option.bind_some _ _).symm.trans H; with_reducible exact H2_) | with_reducible exact H | (rw [hy720]; exact H) | exact H
                have Ny720 := Aside0.mk hy720; clear hy720; have H' := Aside0.mk H; clear H; obtain ⟨_, _, _, _, _, _, _, _, _, _, _, _, _, _⟩ := cells7 BK707.out
                try go_wp2_with (first | ((with_reducible refine gc 120 rfl ?_); refine gl (some 38) #[.int .i64 ((rd_T156 l0 x11_1).f0)] Tryd.func120 ?_; (with_reducible refine (expr_two.calls ((rd_T156 l0 x11_1).f0) true _ A44.out).mono ?_); rintro e w' ⟨rfl, ⟨nd, rfl⟩⟩; refine ⟨_, rfl, ?_⟩; (try (rw [drewN_self wc]; generalize hq_ : World.drewN wc _ = wc; have n0_ : Aside0 (Kd.R (Kd.int .i64) 3 wc w.heap.size (fun _ => True) (.slice (some ⟨go10, 0, none⟩) y708.length co10) y708) := ⟨by rw [← hq_]; exact (by (with_reducible repeat (first | apply Kd.R_alloc | apply Kd.R_drewN | apply Kd.R_drew)); exact HO_3.out)⟩; have n1_ : Aside0 (wc.heap[gb707]? = some (.cells #[.int .i64 ((rd_T156 l0 x11_1).f0), .int .i64 ((rd_T156 l0 x11_1).f1.f0), .int .i64 ((rd_T156 l0 x11_1).f1.f1), .string ((rd_T156 l0 x11_1).f1.f2), .string ((rd_T156 l0 x11_1).f2), .int .i64 ((rd_T156 l0 x11_1).f3), .int .i64 ((rd_T156 l0 x11_1).f4)] 156 (0, 0))) := ⟨by rw [← hq_]; exact qK⟩; have n2_ : Aside0 (Below w.heap.size w wc) := ⟨by rw [← hq_]; exact qB⟩; clear HO_3 BK707 HB hq_; have HO_3 := n0_; have BK707 := n1_; have HB := n2_; clear n0_ n1_ n2_))))
                replace BK707 := Aside0.mk (blk_drew BK707.out); replace HO_3 := Aside0.mk (Kd.R_drew HO_3.out); replace HB := Aside0.mk (below_drew1 HB.out); have p718 : 0 ≤ (x11_1 : Int) := qD; have q718 : x11_1 < (y708.length : Int) := qD; obtain ⟨ad718, e718, hx718_0⟩ := Kd.at_int (Kd.R_reads' HO_3.out).2.2 x11_1 p718 q718; obtain rfl : (⟨go10, 0, none⟩ : Addr) = ad718 := (by injection e718); (first | simp only [add_plain] at hx718_0 | simp only [add_at] at hx718_0 | simp only [Addr.add, Nat.zero_add] at hx718_0 | skip); replace p718 := eq_true p718; replace q718 := eq_true q718; have p719 : 0 ≤ (((rd_T156 l0 x11_1).f4) : Int) := qD; have q719 : ((rd_T156 l0 x11_1).f4) < (y708.length : Int) := qD; obtain ⟨ad719, e719, hx719_0⟩ := Kd.at_int (Kd.R_reads' HO_3.out).2.2 ((rd_T156 l0 x11_1).f4) p719 q719; obtain rfl : (⟨go10, 0, none⟩ : Addr) = ad719 := (by injection e719); (first | simp only [add_plain] at hx719_0 | simp only [add_at] at hx719_0 | simp only [Addr.add, Nat.zero_add] at hx719_0 | skip); replace p719 := eq_true p719; replace q719 := eq_true q719; have p51 : 0 ≤ (x11_1 : Int) := qD; have q51 : (x11_1 : Int) < ((y708.length : Int) : Int) := qD; obtain ⟨hx51_0, hf51_0⟩ := Kd.R_celln 0 HO_3.out (x11_1 : Int) p51 q51; replace p51 := eq_true p51; replace q51 := eq_true q51; have HP54 := Kd.R_putn HO_3.out (x11_1 : Int) ji50; rw [← Ny720.out] at HP54; have HQ54 := Aside0.mk HP54; clear HP54
                refine start_ (n := 15) (S := fun w' => w'.cell? ⟨gb707, 0, none⟩ = some (.int .i64 ((rd_T156 l0 x11_1).f0)) ∧ w'.cell? ⟨gb707, 1, none⟩ = some (.int .i64 ((rd_T156 l0 x11_1).f1.f0)) ∧ w'.cell? ⟨gb707, 2, none⟩ = some (.int .i64 ((rd_T156 l0 x11_1).f1.f1)) ∧ w'.cell? ⟨gb707, 3, none⟩ = some (.string ((rd_T156 l0 x11_1).f1.f2)) ∧ w'.cell? ⟨gb707, 4, none⟩ = some (.string ((rd_T156 l0 x11_1).f2)) ∧ w'.cell? ⟨gb707, 5, none⟩ = some (.int .i64 ((rd_T156 l0 x11_1).f3)) ∧ w'.cell? ⟨gb707, 6, none⟩ = some (.int .i64 ((rd_T156 l0 x11_1).f4)) ∧ w'.cell? ⟨go10, (x11_1).toNat, none⟩ = some (.int .i64 (rd y708 x11_1)) ∧ w'.cell? ⟨go10, (((rd_T156 l0 x11_1).f4)).toNat, none⟩ = some (.int .i64 (rd y708 ((rd_T156 l0 x11_1).f4)))) (ds := [14]) _ (by kernel_rfl) rfl (fls 15) ⟨(blk_cell BK707.out 0).trans rfl, (blk_cell BK707.out 1).trans rfl, (blk_cell BK707.out 2).trans rfl, (blk_cell BK707.out 3).trans rfl, (blk_cell BK707.out 4).trans rfl, (blk_cell BK707.out 5).trans rfl, (blk_cell BK707.out 6).trans rfl, hx718_0, hx719_0⟩ (fun hHeld => ?_); refine with_tabW expr_Expr_depths.tab9 expr_Expr_depths.bits9 (fun HT_ HW_ => ?_)
                generalize wc.drew = w53 at HO_3 BK707 HB HQ54 hf51_0 hx51_0 hx718_0 hx719_0 hHeld ⊢
                refine pu 0 39 ?_; refine pu 1 40 ?_; refine pu 2 41 ?_; refine pu 3 42 ?_; refine pu 4 43 ?_; refine pu 6 45 ?_; refine pu 7 46 ?_; refine tk 5 44 ?_; refine tk 8 47 ?_; refine pu 9 48 ?_; refine tk 10 49 ?_; refine pu 11 50 ?_; refine pu 12 51 ?_; refine pu 13 52 ?_; refine last_ (i := 14) (N := none) #[true, true, true, true, true, true, true, true, true, true, true, true, true, true, true] rfl rfl (one_of HT_.out (by kernel_rfl)) (by decide) (fun K hK => ?_); refine skip_ (w1 := ?_) (by rfl) rfl ?_ ?_; rotate_left
                ·go_simp
                 rfl
                refine hK.out _ _ ?_; clear hK K; refine done_ (done_of HT_.out (by kernel_rfl)) ?_
                try go_wp2
                (try simp only [← hl3_10])
                go_roundg kj10
                case measure => have := HK1.out; have := HJ10.out; omega
                case rel => exact ⟨(y720), (wrap64 (x11_1 + 1)), qE, H', ⟨by have := HK1.out; have := HJ10.out; omega⟩, ⟨by (try simp only [hl3_10]); (with_reducible repeat (first | apply Kd.R_alloc | apply Kd.R_drewN | apply Kd.R_drew)); exact HQ54.out⟩, ⟨qB⟩⟩
               rw [if_neg c49] at H; exact absurd H (by simp)
              exact absurd H (by simp)
             rw [if_neg c47] at H; exact absurd H (by simp)
            exact absurd H (by simp)
           replace c45 := Bool.eq_false_iff.mpr c45; subst c45; rw [if_neg (show ¬ (false = true) by decide)] at H; have H' := Aside0.mk H; clear H; obtain ⟨_, _, _, _, _, _, _, _, _, _, _, _, _, _⟩ := cells7 BK707.out
           go_wp2_with (first | ((with_reducible refine gc 120 rfl ?_); refine gl (some 38) #[.int .i64 ((rd_T156 l0 x11_1).f0)] Tryd.func120 ?_; (with_reducible refine (expr_two.calls ((rd_T156 l0 x11_1).f0) false _ A44.out).mono ?_); rintro e w' ⟨rfl, ⟨nd, rfl⟩⟩; refine ⟨_, rfl, ?_⟩))
           (try simp only [← hl3_10])
           go_roundg kj10
           case measure => have := HK1.out; have := HJ10.out; omega
           case rel => exact ⟨(y708), (wrap64 (x11_1 + 1)), qE, H', ⟨by have := HK1.out; have := HJ10.out; omega⟩, ⟨by (try simp only [hl3_10]); (with_reducible repeat (first | apply Kd.R_alloc | apply Kd.R_drewN | apply Kd.R_drew)); exact HO_3.out⟩, ⟨qB⟩⟩
        rw [if_neg c9] at H; exact absurd H (by simp)
       rw [if_neg c8] at H; exact absurd H (by simp)
      rw [if_neg c7] at H; exact absurd H (by simp)
     rw [if_neg c6] at H; have c6b0 := decide_eq_false c6; clear c6; obtain rfl := Option.some.inj H
     go_wp2
     go_ret; exact ⟨_, qR, by (with_reducible repeat (first | apply Kd.R_alloc | apply Kd.R_drewN | apply Kd.R_drew)); exact HO_3.out, qB⟩
  rw [if_neg c3] at H
  exact absurd H (by simp)
 rw [if_neg c2] at H
 exact absurd H (by simp)
def expr_Expr_Size.l0 : Nat → List Int → Int → Int → Option (Int)
 | 0, _, _, _ => none
 | k + 1, x9, x10, x11 => if x11 < x10 then (if 0 ≤ x11 then (if x11 < (x9.length : Int) then (if (rd x9 x11) > 8 then (some 23) else (expr_Expr_Size.l0 k x9 x10 (wrap64 (x11 + 1)))) else (none)) else (none)) else (some 0)
def expr_Expr_Size.f (k : Nat) (l0 : List (S156)) : Option (Int) := if (l0.length : Int) > 32 then (some 13) else ((expr_Expr_depths.f k l0).bind fun t721 => (expr_Expr_Size.l0 k t721 (t721.length : Int) 0))
set_option maxHeartbeats 8000000 in
set_option maxRecDepth 100000 in
theorem expr_Expr_Size.calls (k : Nat) (A0 : Option Addr) (c0 : Nat) (l0 : List (S156)) (r : Int) (w : World) (hr0 : Kd.C k156 w A0 l0.length l0) (hc0 : l0.length ≤ c0) (h : expr_Expr_Size.f k l0 = some r) :
  Calls Tryd.prog 95 #[.slice A0 l0.length c0] w fun e w' => e = .returned (.int .i64 r) ∧ Below w.heap.size w w' := by
 have HR0 := Aside0.mk hr0
 have HC0 := Aside0.mk hc0
 clear hr0 hc0
 have HB := Aside0.mk (Below.refl w.heap.size w)
 have H : (if (l0.length : Int) > 32 then (some 13) else ((expr_Expr_depths.f k l0).bind fun t721 => (expr_Expr_Size.l0 k t721 (t721.length : Int) 0))) = some r := h
 clear h
 by_cases c2 : (l0.length : Int) > 32
 ·rw [if_pos c2] at H
  have c2b0 := decide_eq_true c2
  have c2b1 : decide (32 < l0.length) = true := decide_eq_true (by omega)
  clear c2
  obtain rfl := Option.some.inj H
  go_enter Tryd.func95, Tryd.ntmps95
  go_wp2
  go_ret
  exact ⟨qR, qB⟩
 rw [if_neg c2] at H
 have c2b0 := decide_eq_false c2
 have c2b1 : decide (32 < l0.length) = false := decide_eq_false (by omega)
 clear c2
 replace H := Option.bind_eq_some_iff.mp H
 obtain ⟨t721, A30, H⟩ := H
 (try dsimp -simprocs only at H)
 have A3 := Aside0.mk A30
 clear A30
 have H' := Aside0.mk H
 clear H
 go_enter Tryd.func95, Tryd.ntmps95
 go_wp2_with (first | ((with_reducible refine gc 121 rfl ?_); refine gl (some 9) #[.slice A0 l0.length c0] Tryd.func121 ?_; (with_reducible refine (expr_Expr_depths.calls k _ _ l0 t721 _ ?side1 ?side2 A3.out).mono ?_); (case side1 => repeat (first | exact HR0.out | (with_reducible refine Kd.C_alloc ?_ _) | (with_reducible refine Kd.C_drewN ?_ _) | (with_reducible refine Kd.C_drew ?_))); (case side2 => exact HC0.out); rintro e w4 ⟨v722, rfl, ho0, hb⟩; refine ⟨_, rfl, ?_⟩; have HO723 := Aside0.mk (Kd.R_lower ho0 (below_size qB)); replace HB := bst hb; (try clear hb); (try clear ho0); obtain ⟨Ao5, co5, eo5⟩ := Kd.R_slice HO723.out; subst eo5))
 go_loopg [11] k (fun kq v11 w' => ∃ (x11_1 : Int), v11 = .int .i64 x11_1 ∧ Aside0 (expr_Expr_Size.l0 kq t721 (t721.length : Int) x11_1 = some r) ∧ Aside0 (kq ≤ k) ∧ Aside0 (Kd.R (Kd.int .i64) 3 w' w.heap.size (fun _ => True) (.slice Ao5 t721.length co5) t721) ∧ Aside0 (Below w.heap.size w w'))
 case atStart => exact ⟨(0), qE, H', ⟨Nat.le_refl _⟩, ⟨by (with_reducible repeat (first | apply Kd.R_alloc | apply Kd.R_drewN | apply Kd.R_drew)); exact HO723.out⟩, ⟨qB⟩⟩
 case round =>
  clear H'
  try clear p2
  obtain ⟨x11_1, rfl, HA, HK1, HO_9, HB⟩ := hrel
  cases gk with
  | zero => exact absurd HA.out (by simp [expr_Expr_Size.l0])
  | succ k1 =>
   have H := HA.out
   clear HA
   simp only [expr_Expr_Size.l0] at H
   replace H := iD H
   rcases H with ⟨c6b0, H⟩ | ⟨c6b0, H⟩
   ·by_cases c7 : 0 ≤ x11_1
    ·rw [if_pos c7] at H; have c7b0 := decide_eq_true c7; clear c7; replace H := iD H
     rcases H with ⟨c8b0, H⟩ | ⟨c8b0, H⟩
     ·by_cases c9 : (rd t721 x11_1) > 8
      ·rw [if_pos c9] at H; have c9b0 := decide_eq_true c9; clear c9; obtain rfl := Option.some.inj H; have p724 : 0 ≤ (x11_1 : Int) := qD; have q724 : x11_1 < (t721.length : Int) := qD; obtain ⟨ad724, e724, hx724_0⟩ := Kd.at_int (Kd.R_reads' HO_9.out).2.2 x11_1 p724 q724; cases e724; replace p724 := eq_true p724; replace q724 := eq_true q724
       go_wp2
       go_ret; exact ⟨qR, qB⟩
      rw [if_neg c9] at H; have c9b0 := decide_eq_false c9; clear c9; have H' := Aside0.mk H; clear H; have p724 : 0 ≤ (x11_1 : Int) := qD; have q724 : x11_1 < (t721.length : Int) := qD; obtain ⟨ad724, e724, hx724_0⟩ := Kd.at_int (Kd.R_reads' HO_9.out).2.2 x11_1 p724 q724; cases e724; replace p724 := eq_true p724; replace q724 := eq_true q724
      go_wp2
      go_roundg k1
      case measure => have := HK1.out; omega
      case rel => exact ⟨(wrap64 (x11_1 + 1)), qE, H', ⟨by have := HK1.out; omega⟩, ⟨by (with_reducible repeat (first | apply Kd.R_alloc | apply Kd.R_drewN | apply Kd.R_drew)); exact HO_9.out⟩, ⟨qB⟩⟩
     exact absurd H (by simp)
    rw [if_neg c7] at H
    exact absurd H (by simp)
   obtain rfl := Option.some.inj H
   go_wp2
   go_ret
   exact ⟨qR, qB⟩
end Go.Proofs.YtbngfhlciebeeaaDoor.L
end
section
namespace Go.Proofs.YtbngfhlciebeeaaDoor.L
set_option linter.unusedVariables false
open Go.RowKit Go.Proofs.YtbngfhlciebeeaaDoorW.PrintWords Go.Proofs.YtbngfhlciebeeaaDoorW.PrintLast Go.Proofs.YtbngfhlciebeeaaDoorW.PrintMore
theorem tell2 {P : Program} {c : Code} {Q : Exit → Act → World → Prop} {a : Act} {W : World} (w0 : World) (g g' : Nat) (o o' : Obj) (h1 : W.heap[g]? = some o) (h2 : W.heap[g']? = some o') (hb : Below w0.heap.size w0 W)
    (k : ∀ W', W'.heap[g]? = some o → W'.heap[g']? = some o' → Below w0.heap.size w0 W' → Code.wp P c Q a W') : Code.wp P c Q a W := k W h1 h2 hb
theorem blk_pl {w : World} {g : Nat} {t : TypeId} {cs : List Value} {i : Nat} {u : Value} (h : w.heap[g]? = some (.cells cs.toArray t (0, 0))) : (w.setCell ⟨g, i, none⟩ u).heap[g]? = some (.cells (cs.set i u).toArray t (0, 0)) :=
  blk_pu h (by simp)
theorem blk_is {W : World} {g : Nat} {t : TypeId} {cs cs' : List Value} (h : W.heap[g]? = some (.cells cs.toArray t (0, 0))) (e : cs = cs') : W.heap[g]? = some (.cells cs'.toArray t (0, 0)) := e ▸ h
end Go.Proofs.YtbngfhlciebeeaaDoor.L
end
