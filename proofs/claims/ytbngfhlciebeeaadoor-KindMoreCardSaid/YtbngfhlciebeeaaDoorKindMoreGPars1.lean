/- Printed and hand-written steps towards the row (KindMore), those that it reaches. -/
import Derived.Test.YtbngfhlciebeeaaDoorKindMoreG5
import Derived.Test.YtbngfhlciebeeaaDoorKindMoreG21
import Derived.Test.YtbngfhlciebeeaaDoorKindMoreG22
import Derived.Test.YtbngfhlciebeeaaDoorKindMoreG15
import Derived.StillTailTactics
import Derived.Outline
namespace Go.Proofs.YtbngfhlciebeeaaDoor.L
set_option linter.unusedVariables false
set_option linter.unusedSimpArgs false
open Go.RowKit Go.Proofs.YtbngfhlciebeeaaDoorW.PrintWords Go.Proofs.YtbngfhlciebeeaaDoorW.PrintLast Go.Proofs.YtbngfhlciebeeaaDoorW.PrintMore
def IsP (w0 W : World) (g : Nat) (A : Option Addr) (c : Nat) (l : List S32) (i : Int) (e : List S156) : Prop :=
  ∃ ve, W.heap[g]? = some (.cells #[.slice A l.length c, .int .i64 i, ve] 174 (0, 0)) ∧ w0.heap.size ≤ g ∧ Kd.R k156 156 W w0.heap.size (fun k => k ≠ g) ve e ∧ Kd.C k32 w0 A l.length l ∧ l.length ≤ c ∧ Below w0.heap.size w0 W
section
variable {w0 W W1 : World} {g : Nat} {A : Option Addr} {c : Nat} {l : List S32} {i : Int} {e : List S156}
theorem IsP.below (h : IsP w0 W g A c l i e) (hb : Below W.heap.size W W1) : IsP w0 W1 g A c l i e := by
  obtain ⟨ve, h1, h2, h3, h4, h5, h6⟩ := h
  exact ⟨ve, blk_below h1 hb, h2, Kd.R_below h3 hb, h4, h5, below_step h6 hb⟩
theorem IsP.bel (h : IsP w0 W g A c l i e) : Below w0.heap.size w0 W := by obtain ⟨ve, h1, h2, h3, h4, h5, h6⟩ := h; exact h6
theorem IsP.reads (h : IsP w0 W g A c l i e) : Kd.C k32 W A l.length l := by obtain ⟨ve, h1, h2, h3, h4, h5, h6⟩ := h; exact Kd.C_below h4 h6
theorem IsP.set_at (h : IsP w0 W g A c l i e) (j : Int) : IsP w0 (W.setCell ⟨g, 1, none⟩ (.int .i64 j)) g A c l j e := by
  obtain ⟨ve, h1, h2, h3, h4, h5, h6⟩ := h
  exact ⟨ve, blk_put h1 1 _ rfl, h2, Kd.R_far h3 (fun k hk => hk) _, h4, h5, below_set h6 h2⟩
end
def KeepT (w w' : World) : Prop := ∀ (b : Nat) (cs : Array Value) (t : Nat), t ≠ 156 → t ≠ 174 → w.heap[b]? = some (.cells cs t (0, 0)) → w'.heap[b]? = some (.cells cs t (0, 0))
theorem KeepT.trans {w w1 w2 : World} (h : KeepT w w1) (k : KeepT w1 w2) : KeepT w w2 := fun b cs t h1 h2 h3 => k b cs t h1 h2 (h b cs t h1 h2 h3)
theorem KeepT.of_below {w w' : World} (h : Below w.heap.size w w') : KeepT w w' := fun b cs t _ _ h3 => blk_below h3 h
theorem KeepT.set_ {w : World} {g : Nat} {cs : Array Value} (hg : w.heap[g]? = some (.cells cs 174 (0, 0))) (j : Nat) (u : Value) : KeepT w (w.setCell ⟨g, j, none⟩ u) := fun b cs' t _ h2 h3 => blk_far h3 (blk_ne h3 hg h2) u
theorem KeepT.grown {w w' : World} {base : Nat} {ok : Nat → Prop} {v : Value} {xs : List S156} (hr : Kd.R k156 156 w base ok v xs) (hg : w.grownBy w' v.ownBlock) : KeepT w w' := fun b cs t h1 _ h3 => by
  refine blk_grown h3 hg (fun e => ?_)
  obtain ⟨cells, hc⟩ := Kd.R_typed hr b e.symm
  rw [h3] at hc
  injection hc with hc
  injection hc with _ hc
  exact h1 hc
theorem IsP.keep_at {w0 W : World} {g : Nat} {A : Option Addr} {c : Nat} {l : List S32} {i : Int} {e : List S156} (h : IsP w0 W g A c l i e) (j : Int) : KeepT W (W.setCell ⟨g, 1, none⟩ (.int .i64 j)) := by
  obtain ⟨ve, h1, _⟩ := h
  exact KeepT.set_ h1 1 _
def nextT (l : List S32) (i : Nat) : S32 := l.getD i z32
theorem nextT_at {l : List S32} {i : Nat} (h : i < l.length) : nextT l i = l[i] := by
  unfold nextT
  rw [List.getD_eq_getElem?_getD, List.getElem?_eq_getElem h]; rfl
theorem nextT_end {l : List S32} {i : Nat} (h : ¬ i < l.length) : nextT l i = z32 := by
  unfold nextT
  rw [List.getD_eq_getElem?_getD, List.getElem?_eq_none (by omega)]; rfl
def isT (t : S32) (ss : List ByteArray) : Bool := (t.f0 == 1 || t.f0 == 5) && Sp.anyIs t.f1 ss
theorem isT_end (ss : List ByteArray) : isT z32 ss = false := rfl
def nextR : Bool × List (List Nat × List Nat) := (true, [([], []), ([0], [0]), ([1], [1]), ([2], [2]), ([], []), ([4], [4]), ([5], [5]), ([6], [6]), ([3, 7], [3, 7]), ([8], [8]), ([9, 0, 1, 2, 3, 4, 5, 6, 7, 8, 9], [9])])
def nextB : List Nat := [0, 1, 3, 7, 0, 16, 48, 112, 255, 511, 1023]
theorem nextTab : rtab .any (opsOf Tryd.f161 2) = nextR := by kernel_rfl
theorem nextBits : waitsOk nextR.2 nextB = true := by kernel_rfl
theorem tok_end {W : World} {t : Nat} {x : S32} {Q : Ending → World → Prop} {a : Act} {fn : Func} (hres : fn.results = #[ResultVar.cell 2 32]) (ha : a.tmps.getD 2 undef = .pointer (some ⟨t, 0, none⟩)) (hd : a.defers = [])
    (hb : W.heap[t]? = some (.cells #[.int .i64 x.f0, .string x.f1, .int .i64 x.f2, .int .i64 x.f3] 32 (0, 0))) (h : Q (.returned (.agg #[.int .i64 x.f0, .string x.f1, .int .i64 x.f2, .int .i64 x.f3])) W) : bodyPost Tryd.prog fn Q Exit.ret a W := by
  refine bodyPost_ret (results_cell_row hres _ _ t 32 #[.int .i64 x.f0, .string x.f1, .int .i64 x.f2, .int .i64 x.f3] (0, 0) _ ha hb Tryd.underlying32 rfl (by kernel_rfl)) hd h
set_option maxHeartbeats 4000000 in
set_option maxRecDepth 100000 in
theorem next_calls {w0 w : World} {g : Nat} {A : Option Addr} {c : Nat} {l : List S32} {i : Nat} {e : List S156} (h : IsP w0 w g A c l (i : Int) e) :
    Calls Tryd.prog 161 #[.pointer (some ⟨g, 0, none⟩)] w fun x w' => x = .returned (.agg #[.int .i64 (nextT l i).f0, .string (nextT l i).f1, .int .i64 (nextT l i).f2, .int .i64 (nextT l i).f3]) ∧ Below w.heap.size w w' := by
  have hr := Aside0.mk h.reads
  obtain ⟨ve, h1, h2, h3, h4, h5, h6⟩ := h
  have hlm := h4.2.1
  clear h2 h3 h4 h5 h6
  have HB := Aside0.mk (blk_alloc h1 (.cells #[.int .i64 0, .string ⟨#[]⟩, .int .i64 0, .int .i64 0] 32))
  have HN := Aside0.mk (blk_new w (.cells #[.int .i64 0, .string ⟨#[]⟩, .int .i64 0, .int .i64 0] 32))
  have hlt := blk_lt h1
  have hE := Aside0.mk ((Below.refl w.heap.size w).alloc (Nat.le_refl _) (.cells #[.int .i64 0, .string ⟨#[]⟩, .int .i64 0, .int .i64 0] 32))
  clear h1
  have c0 := blk_cell HB.out 0
  have c1 := blk_cell HB.out 1
  by_cases hi : i < l.length
  · have b1 : decide ((i : Int) < (l.length : Int)) = true := decide_eq_true (by omega)
    have b2 : decide (0 ≤ (i : Int)) = true := decide_eq_true (by omega)
    go_enter Tryd.func161, Tryd.ntmps161
    go_wp2
    go_quiet (fail)
    have HN1 := Aside0.mk (blk_drewN HN.out nq)
    have HB1 := Aside0.mk (blk_drewN HB.out nq)
    have hE1 := Aside0.mk (pw_below_drewN hE.out nq)
    generalize (w.alloc (.cells #[.int .i64 0, .string ⟨#[]⟩, .int .i64 0, .int .i64 0] 32)).drewN nq = w1 at HN1 HB1 hE1 ⊢
    clear c0 c1 HB HN hE
    have c0 := blk_cell HB1.out 0
    have c1 := blk_cell HB1.out 1
    obtain ⟨ad, eA, q0, q1, q2, q3⟩ := at_T32 (Kd.C_below hr.out hE1.out) (i : Int) (by omega) (by omega)
    rw [Int.toNat_natCast] at q0 q1 q2 q3
    have et := Aside0.mk (show rd_T32 l (i : Int) = nextT l i from rfl)
    subst eA
    go_wp2
    refine start_ (n := 11) (S := fun w' => w'.cell? ⟨g, 0, none⟩ = some (.slice (some ad) l.length c) ∧ w'.cell? ⟨g, 1, none⟩ = some (.int .i64 (i : Int)) ∧ w'.cell? (ad.add (i * 4)) = some (.int .i64 (rd_T32 l (i : Int)).f0) ∧ w'.cell? ⟨(ad.add (i * 4)).block, (ad.add (i * 4)).off + 1, none⟩ = some (.string (rd_T32 l (i : Int)).f1) ∧ w'.cell? ⟨(ad.add (i * 4)).block, (ad.add (i * 4)).off + 2, none⟩ = some (.int .i64 (rd_T32 l (i : Int)).f2) ∧ w'.cell? ⟨(ad.add (i * 4)).block, (ad.add (i * 4)).off + 3, none⟩ = some (.int .i64 (rd_T32 l (i : Int)).f3)) (ds := [10]) #[false, false, false, false, false, false, false, false, false, false, false] (by kernel_rfl) rfl rfl ⟨c0, c1, q0, q1, q2, q3⟩ (fun hHeld => ?_)
    have HN2 := Aside0.mk (blk_drew HN1.out)
    have hE2 := Aside0.mk (below_drew1 hE1.out)
    generalize w1.drew = w2 at HN2 hE2 hHeld ⊢
    refine with_tabW nextTab nextBits (fun HT_ HW_ => ?_)
    refine pu 0 13 ?_; refine pu 1 14 ?_; refine pu 2 15 ?_; refine tk 3 16 ?_; refine pu 4 17 ?_; refine pu 5 18 ?_; refine pu 6 19 ?_; refine tk 7 20 ?_; refine pu 8 21 ?_; refine tk 9 22 ?_
    have d0 := blk_cell HN2.out 0
    have d1 := blk_cell HN2.out 1
    have d2 := blk_cell HN2.out 2
    have d3 := blk_cell HN2.out 3
    have f0 := blk_frozen HN2.out 0
    have f1 := blk_frozen HN2.out 1
    have f2 := blk_frozen HN2.out 2
    have f3 := blk_frozen HN2.out 3
    refine last_ (i := 10) (N := none) #[true, true, true, true, true, true, true, true, true, true, true] rfl rfl (one_of HT_.out (by kernel_rfl)) (by decide) (fun K hK => ?_)
    refine skip_ (w1 := ?_) (by rfl) rfl ?_ ?_
    rotate_left
    · go_simp
      rfl
    refine hK.out _ _ ?_
    clear hK K
    refine done_ (done_of HT_.out (by kernel_rfl)) ?_
    go_wp2
    rw [et.out]
    refine tok_end (x := nextT l i) rfl rfl rfl ?_ ⟨rfl, ?_⟩
    · exact blk_put (blk_put (blk_put (blk_put HN2.out 0 _ rfl) 1 _ rfl) 2 _ rfl) 3 _ rfl
    · exact below_set (below_set (below_set (below_set hE2.out (Nat.le_refl _)) (Nat.le_refl _)) (Nat.le_refl _)) (Nat.le_refl _)
  · have b1 : decide ((i : Int) < (l.length : Int)) = false := decide_eq_false (by omega)
    go_enter Tryd.func161, Tryd.ntmps161
    go_wp2
    go_quiet (fail)
    have HN1 := Aside0.mk (blk_drewN HN.out nq)
    have hE1 := Aside0.mk (pw_below_drewN hE.out nq)
    generalize (w.alloc (.cells #[.int .i64 0, .string ⟨#[]⟩, .int .i64 0, .int .i64 0] 32)).drewN nq = w1 at HN1 hE1 ⊢
    clear c0 c1 HB HN hE
    have d0 := blk_cell HN1.out 0
    have d1 := blk_cell HN1.out 1
    have d2 := blk_cell HN1.out 2
    have d3 := blk_cell HN1.out 3
    have f0 := blk_frozen HN1.out 0
    have f1 := blk_frozen HN1.out 1
    have f2 := blk_frozen HN1.out 2
    have f3 := blk_frozen HN1.out 3
    go_wp2
    refine tok_end (x := nextT l i) rfl rfl rfl ?_ ⟨rfl, ?_⟩
    · rw [nextT_end hi]
      exact blk_put (blk_put (blk_put (blk_put HN1.out 0 _ rfl) 1 _ rfl) 2 _ rfl) 3 _ rfl
    · exact below_set (below_set (below_set (below_set hE1.out (Nat.le_refl _)) (Nat.le_refl _)) (Nat.le_refl _)) (Nat.le_refl _)
theorem C_str1 {w : World} {g : Nat} {s : ByteArray} (h : w.heap[g]? = some (.cells #[.string s] 9 (0, 0))) : Kd.C Kd.string w (some ⟨g, 0, none⟩) [s].length [s] :=
  Kd.C_of_reads (d := ByteArray.empty) ⟨rfl, by simp, fun _ => ⟨_, rfl, fun j hj => by
    have hj0 : j = 0 := by simp at hj; exact hj
    subst hj0
    rw [add_plain]; exact blk_cell h 0⟩⟩
theorem C_str2 {w : World} {g : Nat} {s s' : ByteArray} (h : w.heap[g]? = some (.cells #[.string s, .string s'] 9 (0, 0))) : Kd.C Kd.string w (some ⟨g, 0, none⟩) [s, s'].length [s, s'] :=
  Kd.C_of_reads (d := ByteArray.empty) ⟨rfl, by simp, fun _ => ⟨_, rfl, fun j hj => by
    have hj0 : j = 0 ∨ j = 1 := by simp at hj; omega
    rcases hj0 with rfl | rfl
    · rw [add_plain]; exact blk_cell h 0
    · rw [add_plain]; exact blk_cell h 1⟩⟩
theorem isT_lt {l : List S32} {i : Nat} {ss : List ByteArray} (h : isT (nextT l i) ss = true) : i < l.length := by
  by_cases hi : i < l.length
  · exact hi
  · rw [nextT_end hi, isT_end] at h; cases h
theorem is_some (t : S32) (ss : List ByteArray) (hs : ss.length ≤ 1000000) : ∃ k, tok_Token_Is.f k t.f0 t.f1 t.f2 t.f3 ss = some (isT t ss) := (Sp.is_ev ss hs t.f0 t.f1 t.f2 t.f3).get
set_option maxHeartbeats 4000000 in
set_option maxRecDepth 100000 in
theorem take_calls {w0 w : World} {g : Nat} {A : Option Addr} {c : Nat} {l : List S32} {i : Nat} {e : List S156} (h : IsP w0 w g A c l (i : Int) e) (s : ByteArray) (b : Bool) (hb : isT (nextT l i) [s] = b) :
    Calls Tryd.prog 155 #[.pointer (some ⟨g, 0, none⟩), .string s] w fun x w' => x = .returned (.bool b) ∧ IsP w0 w' g A c l (if b = true then ((i + 1 : Nat) : Int) else (i : Int)) e ∧ KeepT w w' := by
  have H := Aside0.mk h
  have hlt := Aside0.mk (fun h1 : b = true => isT_lt (hb.trans h1))
  have hlm := Aside0.mk (show l.length ≤ 9223372036854775807 by obtain ⟨_, _, _, _, h4, _⟩ := h; exact h4.2.1)
  obtain ⟨k, hk0⟩ := is_some (nextT l i) [s] (by simp)
  rw [hb] at hk0
  have hk := Aside0.mk hk0
  clear h hb hk0
  go_enter Tryd.func155, Tryd.ntmps155
  go_wp2_with (go_at_call 161; refine (next_calls H.out).mono ?_)
  rintro x w1 ⟨rfl, hb1⟩
  have H1 := Aside0.mk (IsP.below H.out hb1)
  have K1 := Aside0.mk (KeepT.of_below hb1)
  clear hb1
  generalize nextT l i = t at hk ⊢
  have hC := Aside0.mk (C_str1 (blk_new w1 (.cells #[.string s] 9)))
  have H2 := Aside0.mk (IsP.below H1.out (below_alloc (Below.refl _ _) (.cells #[.string s] 9)))
  go_wp2_with (go_at_call 23; refine (tok_Token_Is.calls k t.f0 t.f1 t.f2 t.f3 _ 1 [s] b _ hC.out (by simp) hk.out).mono ?_)
  rintro x w2 ⟨rfl, hb2⟩
  have H3 := Aside0.mk (IsP.below H2.out hb2)
  have K3 := Aside0.mk (K1.out.trans ((KeepT.of_below (below_alloc (Below.refl _ _) (.cells #[.string s] 9))).trans (KeepT.of_below hb2)))
  clear hb2
  cases b with
  | false =>
    go_wp2
    go_ret
    exact ⟨rfl, H3.out, K3.out⟩
  | true =>
    have h3 := H3.out
    obtain ⟨ve, k1, _⟩ := h3
    have c1 := blk_cell k1 1
    have f1 := blk_frozen k1 1
    have hi := hlt.out rfl
    have hm := hlm.out
    clear k1
    go_wp2
    go_ret
    exact ⟨rfl, IsP.set_at H3.out _, K3.out.trans (IsP.keep_at H3.out _)⟩
def addR : Bool × List (List Nat × List Nat) := (true, [([], []), ([], []), ([1], [1]), ([2], [2]), ([3], [3]), ([], []), ([5], [5]), ([4, 6], [4, 6]), ([0, 0, 1, 2, 3, 4, 5, 6, 7], [0]), ([8, 0, 1, 2, 3, 4, 5, 6, 7], [8]), ([9, 7, 7, 0, 1, 2, 3, 4, 5, 6, 7], [7, 9])])
def addB : List Nat := [0, 0, 2, 6, 14, 0, 32, 126, 255, 511, 1023]
theorem addTab : rtab .any (opsOf Tryd.f140 1) = addR := by kernel_rfl
theorem addBits : waitsOk addR.2 addB = true := by kernel_rfl
theorem addInfo : (Tryd.prog.info? 156).map (fun i => (i.zero, i.size, i.bytes)) = some (some (.agg #[(.int .i64 0), (.int .i64 0), (.int .i64 0), (.string ⟨#[]⟩), (.string ⟨#[]⟩), (.int .i64 0), (.int .i64 0)]), 7, 72) := by kernel_rfl
theorem IsP.put {w0 W1 : World} {g : Nat} {A : Option Addr} {c : Nat} {l : List S32} {i : Int} {e1 : List S156} {ve v1 : Value} (hb : W1.heap[g]? = some (.cells #[.slice A l.length c, .int .i64 i, ve] 174 (0, 0))) (h2 : w0.heap.size ≤ g)
    (ho : Kd.R k156 156 W1 w0.heap.size (fun k => k ≠ g) v1 e1) (h4 : Kd.C k32 w0 A l.length l) (h5 : l.length ≤ c) (h6 : Below w0.heap.size w0 W1) : IsP w0 (W1.setCell ⟨g, 2, none⟩ v1) g A c l i e1 :=
  ⟨v1, blk_put hb 2 _ rfl, h2, Kd.R_far ho (fun k hk => hk) _, h4, h5, below_set h6 h2⟩
set_option maxHeartbeats 4000000 in
set_option maxRecDepth 100000 in
theorem add_calls {w0 w : World} {g : Nat} {A : Option Addr} {c : Nat} {l : List S32} {i : Int} {e : List S156} (h : IsP w0 w g A c l i e) (n : S156) (he : e.length ≤ 1000000) :
    Calls Tryd.prog 140 #[.pointer (some ⟨g, 0, none⟩), .agg #[.int .i64 n.f0, .int .i64 n.f1.f0, .int .i64 n.f1.f1, .string n.f1.f2, .string n.f2, .int .i64 n.f3, .int .i64 n.f4]] w fun x w' => x = .returned (.bool true) ∧ IsP w0 w' g A c l i (e ++ [n]) ∧ KeepT w w' := by
  have H := Aside0.mk (IsP.below h (below_alloc (Below.refl _ _) (.cells #[.int .i64 n.f0, .int .i64 n.f1.f0, .int .i64 n.f1.f1, .string n.f1.f2, .string n.f2, .int .i64 n.f3, .int .i64 n.f4] 156)))
  have HN := Aside0.mk (blk_new w (.cells #[.int .i64 n.f0, .int .i64 n.f1.f0, .int .i64 n.f1.f1, .string n.f1.f2, .string n.f2, .int .i64 n.f3, .int .i64 n.f4] 156))
  have hsz := h.bel.size
  have K0 := Aside0.mk ((KeepT.of_below (below_alloc (Below.refl w.heap.size w) (.cells #[.int .i64 n.f0, .int .i64 n.f1.f0, .int .i64 n.f1.f1, .string n.f1.f2, .string n.f2, .int .i64 n.f3, .int .i64 n.f4] 156))).trans (KeepT.of_below (below_drew (Below.refl (w.alloc (.cells #[.int .i64 n.f0, .int .i64 n.f1.f0, .int .i64 n.f1.f1, .string n.f1.f2, .string n.f2, .int .i64 n.f3, .int .i64 n.f4] 156)).heap.size (w.alloc (.cells #[.int .i64 n.f0, .int .i64 n.f1.f0, .int .i64 n.f1.f1, .string n.f1.f2, .string n.f2, .int .i64 n.f3, .int .i64 n.f4] 156))))))
  clear h
  go_enter Tryd.func140, Tryd.ntmps140
  go_wp2
  have HN := Aside0.mk (blk_drew HN.out)
  have H := Aside0.mk (IsP.below H.out (below_drew (Below.refl _ _)))
  have hsz1 : w0.heap.size ≤ (w.alloc (.cells #[.int .i64 n.f0, .int .i64 n.f1.f0, .int .i64 n.f1.f1, .string n.f1.f2, .string n.f2, .int .i64 n.f3, .int .i64 n.f4] 156)).drew.heap.size := H.out.bel.size
  have h0 := H.out
  obtain ⟨ve, h1, h2, h3, h4, h5, h6⟩ := h0
  have B1 := Aside0.mk h1
  have G2 := Aside0.mk h2
  have R3 := Aside0.mk h3
  have C4 := Aside0.mk h4
  have L5 := Aside0.mk h5
  have B6 := Aside0.mk h6
  clear h1 h2 h3 h4 h5 h6 H
  obtain ⟨A2, c2, ev⟩ := Kd.R_slice R3.out
  subst ev
  refine start_ (n := 11) (S := fun w' => w'.cell? ⟨g, 2, none⟩ = some (.slice A2 e.length c2) ∧ w'.cell? ⟨w.heap.size, 0, none⟩ = some (.int .i64 n.f0) ∧ w'.cell? ⟨w.heap.size, 1, none⟩ = some (.int .i64 n.f1.f0) ∧ w'.cell? ⟨w.heap.size, 2, none⟩ = some (.int .i64 n.f1.f1) ∧ w'.cell? ⟨w.heap.size, 3, none⟩ = some (.string n.f1.f2) ∧ w'.cell? ⟨w.heap.size, 4, none⟩ = some (.string n.f2) ∧ w'.cell? ⟨w.heap.size, 5, none⟩ = some (.int .i64 n.f3) ∧ w'.cell? ⟨w.heap.size, 6, none⟩ = some (.int .i64 n.f4)) (ds := [7, 10]) #[false, false, false, false, false, false, false, false, false, false, false] (by kernel_rfl) rfl rfl ⟨blk_cell B1.out 2, blk_cell HN.out 0, blk_cell HN.out 1, blk_cell HN.out 2, blk_cell HN.out 3, blk_cell HN.out 4, blk_cell HN.out 5, blk_cell HN.out 6⟩ (fun hHeld => ?_)
  generalize (w.alloc (.cells #[.int .i64 n.f0, .int .i64 n.f1.f0, .int .i64 n.f1.f1, .string n.f1.f2, .string n.f2, .int .i64 n.f3, .int .i64 n.f4] 156)).drew = w1 at B1 R3 B6 HN K0 hsz1 hHeld ⊢
  refine with_tabW addTab addBits (fun HT_ HW_ => ?_)
  refine pu 0 5 ?_; refine pu 1 6 ?_; refine pu 2 7 ?_; refine pu 3 8 ?_; refine tk 4 9 ?_; refine tk 5 10 ?_
  refine onx 6 11 (fun K hK => ?_)
  refine value_ (w1 := w1.alloc (.cells #[.int .i64 n.f0, .int .i64 n.f1.f0, .int .i64 n.f1.f1, .string n.f1.f2, .string n.f2, .int .i64 n.f3, .int .i64 n.f4] 156)) (v := .slice (some ⟨w1.heap.size, 0, none⟩) 1 1) (by rfl) rfl ?_ ?_
  · go_simp
  refine hK.out _ _ ⟨(blk_cell (blk_alloc B1.out _) 2).trans rfl, (blk_cell (blk_alloc HN.out _) 0).trans rfl, (blk_cell (blk_alloc HN.out _) 1).trans rfl, (blk_cell (blk_alloc HN.out _) 2).trans rfl, (blk_cell (blk_alloc HN.out _) 3).trans rfl, (blk_cell (blk_alloc HN.out _) 4).trans rfl, (blk_cell (blk_alloc HN.out _) 5).trans rfl, (blk_cell (blk_alloc HN.out _) 6).trans rfl⟩ (fun hHeld => ?_)
  clear hK K
  refine nm 11 ?_
  refine last_ (i := 7) (N := some 12) #[true, true, true, true, true, true, true, true, false, false, false] rfl rfl (one_of HT_.out (by kernel_rfl)) (by decide) (fun K hK => ?_)
  refine Kd.R_append_step k156 (w0 := w0) w0.heap.size (by rfl) (.tmp 9) (.tmp 11) 83 156 (.agg #[(.int .i64 0), (.int .i64 0), (.int .i64 0), (.string ⟨#[]⟩), (.string ⟨#[]⟩), (.int .i64 0), (.int .i64 0)]) 72 rfl Tryd.underlying83 addInfo rfl (by decide) (by omega) (.slice A2 e.length c2) e n [.int .i64 n.f0, .int .i64 n.f1.f0, .int .i64 n.f1.f1, .string n.f1.f2, .string n.f2, .int .i64 n.f3, .int .i64 n.f4] (fun k => k ≠ g) (fun _ => False) rfl rfl ?aP (fun _ hk => hk.elim) ?aF ?aO ?aB ?aS ?aL ?_
  case aP => exact k156_mkM _ _ _ n
  case aF => exact fun k hk => by have := blk_lt B1.out; omega
  case aO => exact R3.out
  case aB => exact B6.out
  case aS => exact hsz1
  case aL => omega
  intro v4 w4 ho hb hg hat
  have B4 := Aside0.mk (blk_grown B1.out hg (fun ee => R3.out.1 g ee.symm rfl))
  have O4 := Aside0.mk ho
  have K4 := Aside0.mk (K0.out.trans (KeepT.grown R3.out hg))
  have B5 := Aside0.mk hb
  clear ho hb hg hat
  refine hK.out _ _ ?_
  clear hK K
  refine nm 12 ?_
  refine pu 8 13 ?_; refine pu 9 14 ?_
  have c2 := blk_cell B4.out 2
  have f2 := blk_frozen B4.out 2
  have h8 := O4.out
  obtain ⟨A5, c5, ev⟩ := Kd.R_slice h8
  subst ev
  clear h8
  refine last_ (i := 10) (N := none) #[true, true, true, true, true, true, true, true, true, true, true] rfl rfl (one_of HT_.out (by kernel_rfl)) (by decide) (fun K hK => ?_)
  refine skip_ (w1 := ?_) (by rfl) rfl ?_ ?_
  rotate_left
  · go_simp
    rfl
  refine hK.out _ _ ?_
  clear hK K
  refine done_ (done_of HT_.out (by kernel_rfl)) ?_
  go_wp2
  go_ret
  have h9 := O4.out
  rw [show (e ++ [n]).length = e.length + 1 by simp] at h9
  exact ⟨rfl, IsP.put B4.out G2.out h9 C4.out L5.out B5.out, K4.out.trans (KeepT.set_ B4.out 2 _)⟩
def nameT (t : S32) : Bool := (t.f0 == 1) && !decide (t.f1.data.toList ∈ Sp.meanWords)
theorem nameT_lt {l : List S32} {i : Nat} (h : nameT (nextT l i) = true) : i < l.length := by
  by_cases hi : i < l.length
  · exact hi
  · rw [nextT_end hi] at h; exact absurd h (by decide)
def nodeN (op : Int) (s : ByteArray) : S156 := ⟨op, ⟨0, 0, ⟨#[]⟩⟩, s, 0, 0⟩
set_option maxHeartbeats 4000000 in
set_option maxRecDepth 100000 in
theorem name_no {w0 w : World} {g : Nat} {A : Option Addr} {c : Nat} {l : List S32} {i : Nat} {e : List S156} (h : IsP w0 w g A c l (i : Int) e) (op : Int) (hn : nameT (nextT l i) = false) :
    Calls Tryd.prog 162 #[.pointer (some ⟨g, 0, none⟩), .int .i64 op] w fun x w' => x = .returned (.bool false) ∧ Below w0.heap.size w0 w' := by
  have H := Aside0.mk h
  have HN := Aside0.mk hn
  clear h hn
  go_enter Tryd.func162, Tryd.ntmps162
  go_wp2_with (go_at_call 161; refine (next_calls H.out).mono ?_)
  rintro x w1 ⟨rfl, hb1⟩
  have H1 := Aside0.mk (below_step H.out.bel hb1)
  clear hb1
  generalize nextT l i = t at HN ⊢
  have hT := Aside0.mk (blk_put (blk_put (blk_put (blk_put (blk_new w1 (.cells #[.int .i64 0, .string ⟨#[]⟩, .int .i64 0, .int .i64 0] 32)) 0 (.int .i64 t.f0) rfl) 1 (.string t.f1) rfl) 2 (.int .i64 t.f2) rfl) 3 (.int .i64 t.f3) rfl)
  have hn := HN.out
  unfold nameT at hn
  by_cases h1 : t.f0 = 1
  · rw [h1] at hn
    have hm := Aside0.mk (show tok_Means.f t.f1 = some true by rw [Sp.tMeans_eq]; simpa using hn)
    have b1 : (t.f0 != 1) = false := by rw [h1]; rfl
    clear hn h1
    go_wp2_with (go_at_call 28; refine (tok_Means.calls t.f1 true _ hm.out).mono ?_)
    rintro x w2 ⟨rfl, hd⟩
    obtain ⟨nd, rfl⟩ := hd
    go_wp2
    go_ret
    exact ⟨rfl, by repeat (first | (with_reducible exact H1.out) | (with_reducible apply below_alloc) | (with_reducible apply pw_below_drewN) | (with_reducible apply below_drew1) | (with_reducible refine below_set ?_ H1.out.size))⟩
  · have b1 : (t.f0 != 1) = true := bne_iff_ne.2 h1
    clear hn h1
    go_wp2
    go_ret
    exact ⟨rfl, by repeat (first | (with_reducible exact H1.out) | (with_reducible apply below_alloc) | (with_reducible apply pw_below_drewN) | (with_reducible apply below_drew1) | (with_reducible refine below_set ?_ H1.out.size))⟩
theorem IsP.far {w0 W : World} {g : Nat} {A : Option Addr} {c : Nat} {l : List S32} {i : Int} {e : List S156} (h : IsP w0 W g A c l i e) {b : Nat} (hb : W.heap.size ≤ b) {W1 : World} (hs : W1.heap.size = b + 1) (hB : Below W.heap.size W W1) (j : Nat) (u : Value) : IsP w0 (W1.setCell ⟨b, j, none⟩ u) g A c l i e :=
  h.below (Below.setCell hB hb _)
set_option maxHeartbeats 4000000 in
set_option maxRecDepth 100000 in
theorem name_yes {w0 w : World} {g : Nat} {A : Option Addr} {c : Nat} {l : List S32} {i : Nat} {e : List S156} (h : IsP w0 w g A c l (i : Int) e) (op : Int) (he : e.length ≤ 1000000) (hn : nameT (nextT l i) = true) :
    Calls Tryd.prog 162 #[.pointer (some ⟨g, 0, none⟩), .int .i64 op] w fun x w' => x = .returned (.bool true) ∧ IsP w0 w' g A c l ((i + 1 : Nat) : Int) (e ++ [nodeN op (nextT l i).f1]) ∧ KeepT w w' := by
  have H := Aside0.mk h
  have hi := nameT_lt hn
  have HN := Aside0.mk hn
  have hm : l.length ≤ 9223372036854775807 := by obtain ⟨_, _, _, _, h4, _⟩ := h; exact h4.2.1
  clear h hn
  go_enter Tryd.func162, Tryd.ntmps162
  go_wp2_with (go_at_call 161; refine (next_calls H.out).mono ?_)
  rintro x w1 ⟨rfl, hb1⟩
  have H1 := Aside0.mk (IsP.below H.out hb1)
  have K1 := Aside0.mk (KeepT.of_below hb1)
  clear hb1
  generalize et0 : nextT l i = t at HN ⊢
  have et := Aside0.mk et0
  clear et0
  have hn := HN.out
  unfold nameT at hn
  rw [Bool.and_eq_true] at hn
  have b1 : (t.f0 != 1) = false := bne_eq_false_iff_eq.2 (beq_iff_eq.1 hn.1)
  have hm1 := Aside0.mk (show tok_Means.f t.f1 = some false by rw [Sp.tMeans_eq]; have := hn.2; simpa using this)
  clear hn HN
  have hT := Aside0.mk (blk_new w1 (.cells #[.int .i64 t.f0, .string t.f1, .int .i64 t.f2, .int .i64 t.f3] 32))
  have H2 := Aside0.mk (IsP.below H1.out (below_alloc (Below.refl w1.heap.size w1) (.cells #[.int .i64 t.f0, .string t.f1, .int .i64 t.f2, .int .i64 t.f3] 32)))
  go_wp2_with (go_at_call 28; refine (tok_Means.calls t.f1 false _ hm1.out).mono ?_)
  rintro x w2 ⟨rfl, hd⟩
  obtain ⟨nd, rfl⟩ := hd
  have H3 := Aside0.mk (IsP.below H2.out (pw_below_drewN (Below.refl _ _) nd))
  have hT3 := Aside0.mk (blk_drewN hT.out nd)
  have K3 := Aside0.mk (K1.out.trans ((KeepT.of_below (below_alloc (Below.refl w1.heap.size w1) (.cells #[.int .i64 t.f0, .string t.f1, .int .i64 t.f2, .int .i64 t.f3] 32))).trans (KeepT.of_below (pw_below_drewN (Below.refl (w1.alloc (.cells #[.int .i64 t.f0, .string t.f1, .int .i64 t.f2, .int .i64 t.f3] 32)).heap.size (w1.alloc (.cells #[.int .i64 t.f0, .string t.f1, .int .i64 t.f2, .int .i64 t.f3] 32))) nd))))
  clear hT H2
  generalize (w1.alloc (.cells #[.int .i64 t.f0, .string t.f1, .int .i64 t.f2, .int .i64 t.f3] 32)).drewN nd = w3 at H3 hT3 K3 ⊢
  have h3 := H3.out
  obtain ⟨ve, k1, _⟩ := h3
  have c1 := blk_cell k1 1
  have f1 := blk_frozen k1 1
  have d1 := blk_cell (blk_far hT3.out (p := ⟨g, 1, none⟩) (by have := H1.out; obtain ⟨_, q, _⟩ := this; have := blk_lt q; simp only; omega) (.int .i64 ((i + 1 : Nat) : Int))) 1
  have H4 := Aside0.mk (IsP.set_at H3.out ((i + 1 : Nat) : Int))
  clear k1
  rw [show ((i + 1 : Nat) : Int) = (i : Int) + 1 by omega] at d1 H4
  go_wp2_with (go_at_call 140; refine (add_calls H4.out (nodeN op t.f1) he).mono ?_)
  rintro x w4 ⟨rfl, h5, k5⟩
  have H5 := Aside0.mk h5
  have K5 := Aside0.mk (K3.out.trans ((IsP.keep_at H3.out _).trans k5))
  clear h5 k5
  go_wp2
  go_ret
  rw [et.out, show ((i + 1 : Nat) : Int) = (i : Int) + 1 by omega]
  exact ⟨rfl, H5.out, K5.out⟩
end Go.Proofs.YtbngfhlciebeeaaDoor.L
