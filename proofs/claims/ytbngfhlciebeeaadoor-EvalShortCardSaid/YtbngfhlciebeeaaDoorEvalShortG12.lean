/- Printed and hand-written steps towards the row (EvalShort), those that it reaches. -/
import Derived.Test.YtbngfhlciebeeaaDoorEvalShortG8
import Derived.Test.YtbngfhlciebeeaaDoorEvalShortG3
import Derived.Test.YtbngfhlciebeeaaDoorEvalShortG4
import Derived.Test.YtbngfhlciebeeaaDoorEvalShortG7
import Derived.Test.YtbngfhlciebeeaaDoorEvalShortG11
import Derived.KernelRfl
import Derived.StillTailTactics
import Derived.Outline
section
namespace Go.Proofs.YtbngfhlciebeeaaDoor.Sp
set_option linter.unusedVariables false
set_option linter.unusedSimpArgs false
open Go.RowKit Go.Proofs.YtbngfhlciebeeaaDoor.L Go.Proofs.YtbngfhlciebeeaaDoorW.PrintWords
def anyIs (t : ByteArray) (l : List ByteArray) : Bool := l.any fun s => s.toList == t.toList
theorem rdOf_at {α : Type} {d : α} {l : List α} {j : Nat} (h : j < l.length) : rdOf d l (j : Int) = l[j] := by
  unfold rdOf
  rw [Int.toNat_natCast, List.getD_eq_getElem?_getD, List.getElem?_eq_getElem h]; rfl
theorem is_l (l : List ByteArray) (hl : l.length ≤ 1000000) (a : Int) (b : ByteArray) (c e : Int) (d : Nat) : ∀ j, j ≤ l.length → l.length - j = d →
    Ev (fun k => tok_Token_Is.l0 k l (l.length : Int) (j : Int) a b c e) (anyIs b (l.drop j)) := by
  induction d with
  | zero =>
    intro j hj hd
    refine Ev.succ ?_
    simp only [tok_Token_Is.l0]
    refine Ev.neg (by omega) (Ev.some ?_)
    rw [List.drop_eq_nil_of_le (by omega)]; rfl
  | succ d ih =>
    intro j hj hd
    have hjl : j < l.length := by omega
    refine Ev.succ ?_
    simp only [tok_Token_Is.l0]
    refine Ev.pos (by omega) (Ev.pos (by omega) (Ev.pos (by omega) ?_))
    rw [rdOf_at hjl, List.drop_eq_getElem_cons hjl, wrap_at (by omega) (by omega)]
    unfold anyIs
    rw [List.any_cons]
    by_cases h : b.toList = (l[j]).toList
    · refine Ev.pos h (Ev.some ?_)
      rw [h, beq_self_eq_true, Bool.true_or]
    · refine Ev.neg h ?_
      rw [show ((l[j]).toList == b.toList) = false from beq_eq_false_iff_ne.2 (fun e => h e.symm), Bool.false_or]
      exact ih (j + 1) (by omega) (by omega)
theorem is_ev (l : List ByteArray) (hl : l.length ≤ 1000000) (a : Int) (b : ByteArray) (c e : Int) :
    Ev (fun k => tok_Token_Is.f k a b c e l) ((a == 1 || a == 5) && anyIs b l) := by
  have h0 := is_l l hl a b c e _ 0 (by omega) rfl
  have hj : Ev (fun k => tok_Token_Is.j0 k l false a b c e) (anyIs b l) := by
    refine Ev.succ ?_
    simp only [tok_Token_Is.j0]
    exact Ev.neg (by decide) h0
  unfold tok_Token_Is.f
  by_cases h1 : a = 1
  · refine Ev.pos h1 ?_
    subst h1
    exact hj
  · refine Ev.neg h1 ?_
    rw [show (a == 1) = false from beq_eq_false_iff_ne.2 h1, Bool.false_or]
    by_cases h5 : a = 5
    · subst h5
      exact hj
    · rw [show (a == 5) = false from beq_eq_false_iff_ne.2 h5, show (a != 5) = true from bne_iff_ne.2 h5]
      refine Ev.succ ?_
      simp only [tok_Token_Is.j0]
      exact Ev.pos trivial (Ev.some rfl)
end Go.Proofs.YtbngfhlciebeeaaDoor.Sp
end
section
namespace Go.Proofs.YtbngfhlciebeeaaDoor.L
set_option linter.unusedVariables false
set_option linter.unusedSimpArgs false
open Go.RowKit Go.Proofs.YtbngfhlciebeeaaDoorW.PrintWords Go.Proofs.YtbngfhlciebeeaaDoorW.PrintLast Go.Proofs.YtbngfhlciebeeaaDoorW.PrintMore
def IsP (w0 W : World) (g : Nat) (A : Option Addr) (c : Nat) (l : List S32) (i : Int) (e : List S156) : Prop :=
  ∃ ve, W.heap[g]? = some (.cells #[.slice A l.length c, .int .i64 i, ve] 174 (0, 0)) ∧ w0.heap.size ≤ g ∧ Kd.R k156 156 W w0.heap.size (fun k => k ≠ g) ve e ∧ Kd.C k32 w0 A l.length l ∧ l.length ≤ c ∧ Below w0.heap.size w0 W
section
variable {w0 W W1 : World} {g : Nat} {A : Option Addr} {c : Nat} {l : List S32} {i : Int} {e : List S156}
theorem IsP.below (h : IsP w0 W g A c l i e) (hb : Below W.heap.size W W1) : IsP w0 W1 g A c l i e := by
  obtain ⟨ve, h1, h2, h3, h4, h5, h6⟩ := h
  exact ⟨ve, blk_below h1 hb, h2, Kd.R_below h3 hb, h4, h5, below_step h6 hb⟩
theorem IsP.bel (h : IsP w0 W g A c l i e) : Below w0.heap.size w0 W := by obtain ⟨ve, h1, h2, h3, h4, h5, h6⟩ := h; exact h6
theorem IsP.reads (h : IsP w0 W g A c l i e) : Kd.C k32 W A l.length l := by obtain ⟨ve, h1, h2, h3, h4, h5, h6⟩ := h; exact Kd.C_below h4 h6
theorem IsP.set_at (h : IsP w0 W g A c l i e) (j : Int) : IsP w0 (W.setCell ⟨g, 1, none⟩ (.int .i64 j)) g A c l j e := by
  obtain ⟨ve, h1, h2, h3, h4, h5, h6⟩ := h
  exact ⟨ve, blk_put h1 1 _ rfl, h2, Kd.R_far h3 (fun k hk => hk) _, h4, h5, below_set h6 h2⟩
end
def KeepT (w w' : World) : Prop := ∀ (b : Nat) (cs : Array Value) (t : Nat), t ≠ 156 → t ≠ 174 → w.heap[b]? = some (.cells cs t (0, 0)) → w'.heap[b]? = some (.cells cs t (0, 0))
theorem KeepT.trans {w w1 w2 : World} (h : KeepT w w1) (k : KeepT w1 w2) : KeepT w w2 := fun b cs t h1 h2 h3 => k b cs t h1 h2 (h b cs t h1 h2 h3)
theorem KeepT.of_below {w w' : World} (h : Below w.heap.size w w') : KeepT w w' := fun b cs t _ _ h3 => blk_below h3 h
theorem KeepT.set_ {w : World} {g : Nat} {cs : Array Value} (hg : w.heap[g]? = some (.cells cs 174 (0, 0))) (j : Nat) (u : Value) : KeepT w (w.setCell ⟨g, j, none⟩ u) := fun b cs' t _ h2 h3 => blk_far h3 (blk_ne h3 hg h2) u
theorem KeepT.grown {w w' : World} {base : Nat} {ok : Nat → Prop} {v : Value} {xs : List S156} (hr : Kd.R k156 156 w base ok v xs) (hg : w.grownBy w' v.ownBlock) : KeepT w w' := fun b cs t h1 _ h3 => by
  refine blk_grown h3 hg (fun e => ?_)
  obtain ⟨cells, hc⟩ := Kd.R_typed hr b e.symm
  rw [h3] at hc
  injection hc with hc
  injection hc with _ hc
  exact h1 hc
theorem IsP.keep_at {w0 W : World} {g : Nat} {A : Option Addr} {c : Nat} {l : List S32} {i : Int} {e : List S156} (h : IsP w0 W g A c l i e) (j : Int) : KeepT W (W.setCell ⟨g, 1, none⟩ (.int .i64 j)) := by
  obtain ⟨ve, h1, _⟩ := h
  exact KeepT.set_ h1 1 _
def nextT (l : List S32) (i : Nat) : S32 := l.getD i z32
theorem nextT_at {l : List S32} {i : Nat} (h : i < l.length) : nextT l i = l[i] := by
  unfold nextT
  rw [List.getD_eq_getElem?_getD, List.getElem?_eq_getElem h]; rfl
theorem nextT_end {l : List S32} {i : Nat} (h : ¬ i < l.length) : nextT l i = z32 := by
  unfold nextT
  rw [List.getD_eq_getElem?_getD, List.getElem?_eq_none (by omega)]; rfl
def isT (t : S32) (ss : List ByteArray) : Bool := (t.f0 == 1 || t.f0 == 5) && Sp.anyIs t.f1 ss
theorem isT_end (ss : List ByteArray) : isT z32 ss = false := rfl
def nextR : Bool × List (List Nat × List Nat) := (true, [([], []), ([0], [0]), ([1], [1]), ([2], [2]), ([], []), ([4], [4]), ([5], [5]), ([6], [6]), ([3, 7], [3, 7]), ([8], [8]), ([9, 0, 1, 2, 3, 4, 5, 6, 7, 8, 9], [9])])
def nextB : List Nat := [0, 1, 3, 7, 0, 16, 48, 112, 255, 511, 1023]
theorem nextTab : rtab .any (opsOf Tryd.f161 2) = nextR := by kernel_rfl
theorem nextBits : waitsOk nextR.2 nextB = true := by kernel_rfl
theorem tok_end {W : World} {t : Nat} {x : S32} {Q : Ending → World → Prop} {a : Act} {fn : Func} (hres : fn.results = #[ResultVar.cell 2 32]) (ha : a.tmps.getD 2 undef = .pointer (some ⟨t, 0, none⟩)) (hd : a.defers = [])
    (hb : W.heap[t]? = some (.cells #[.int .i64 x.f0, .string x.f1, .int .i64 x.f2, .int .i64 x.f3] 32 (0, 0))) (h : Q (.returned (.agg #[.int .i64 x.f0, .string x.f1, .int .i64 x.f2, .int .i64 x.f3])) W) : bodyPost Tryd.prog fn Q Exit.ret a W := by
  refine bodyPost_ret (results_cell_row hres _ _ t 32 #[.int .i64 x.f0, .string x.f1, .int .i64 x.f2, .int .i64 x.f3] (0, 0) _ ha hb Tryd.underlying32 rfl (by kernel_rfl)) hd h
set_option maxHeartbeats 4000000 in
set_option maxRecDepth 100000 in
theorem next_calls {w0 w : World} {g : Nat} {A : Option Addr} {c : Nat} {l : List S32} {i : Nat} {e : List S156} (h : IsP w0 w g A c l (i : Int) e) :
    Calls Tryd.prog 161 #[.pointer (some ⟨g, 0, none⟩)] w fun x w' => x = .returned (.agg #[.int .i64 (nextT l i).f0, .string (nextT l i).f1, .int .i64 (nextT l i).f2, .int .i64 (nextT l i).f3]) ∧ Below w.heap.size w w' := by
  have hr := Aside0.mk h.reads
  obtain ⟨ve, h1, h2, h3, h4, h5, h6⟩ := h
  have hlm := h4.2.1
  clear h2 h3 h4 h5 h6
  have HB := Aside0.mk (blk_alloc h1 (.cells #[.int .i64 0, .string ⟨#[]⟩, .int .i64 0, .int .i64 0] 32))
  have HN := Aside0.mk (blk_new w (.cells #[.int .i64 0, .string ⟨#[]⟩, .int .i64 0, .int .i64 0] 32))
  have hlt := blk_lt h1
  have hE := Aside0.mk ((Below.refl w.heap.size w).alloc (Nat.le_refl _) (.cells #[.int .i64 0, .string ⟨#[]⟩, .int .i64 0, .int .i64 0] 32))
  clear h1
  have c0 := blk_cell HB.out 0
  have c1 := blk_cell HB.out 1
  by_cases hi : i < l.length
  · have b1 : decide ((i : Int) < (l.length : Int)) = true := decide_eq_true (by omega)
    have b2 : decide (0 ≤ (i : Int)) = true := decide_eq_true (by omega)
    go_enter Tryd.func161, Tryd.ntmps161
    go_wp2
    go_quiet (fail)
    have HN1 := Aside0.mk (blk_drewN HN.out nq)
    have HB1 := Aside0.mk (blk_drewN HB.out nq)
    have hE1 := Aside0.mk (pw_below_drewN hE.out nq)
    generalize (w.alloc (.cells #[.int .i64 0, .string ⟨#[]⟩, .int .i64 0, .int .i64 0] 32)).drewN nq = w1 at HN1 HB1 hE1 ⊢
    clear c0 c1 HB HN hE
    have c0 := blk_cell HB1.out 0
    have c1 := blk_cell HB1.out 1
    obtain ⟨ad, eA, q0, q1, q2, q3⟩ := at_T32 (Kd.C_below hr.out hE1.out) (i : Int) (by omega) (by omega)
    rw [Int.toNat_natCast] at q0 q1 q2 q3
    have et := Aside0.mk (show rd_T32 l (i : Int) = nextT l i from rfl)
    subst eA
    go_wp2
    refine start_ (n := 11) (S := fun w' => w'.cell? ⟨g, 0, none⟩ = some (.slice (some ad) l.length c) ∧ w'.cell? ⟨g, 1, none⟩ = some (.int .i64 (i : Int)) ∧ w'.cell? (ad.add (i * 4)) = some (.int .i64 (rd_T32 l (i : Int)).f0) ∧ w'.cell? ⟨(ad.add (i * 4)).block, (ad.add (i * 4)).off + 1, none⟩ = some (.string (rd_T32 l (i : Int)).f1) ∧ w'.cell? ⟨(ad.add (i * 4)).block, (ad.add (i * 4)).off + 2, none⟩ = some (.int .i64 (rd_T32 l (i : Int)).f2) ∧ w'.cell? ⟨(ad.add (i * 4)).block, (ad.add (i * 4)).off + 3, none⟩ = some (.int .i64 (rd_T32 l (i : Int)).f3)) (ds := [10]) #[false, false, false, false, false, false, false, false, false, false, false] (by kernel_rfl) rfl rfl ⟨c0, c1, q0, q1, q2, q3⟩ (fun hHeld => ?_)
    have HN2 := Aside0.mk (blk_drew HN1.out)
    have hE2 := Aside0.mk (below_drew1 hE1.out)
    generalize w1.drew = w2 at HN2 hE2 hHeld ⊢
    refine with_tabW nextTab nextBits (fun HT_ HW_ => ?_)
    refine pu 0 13 ?_; refine pu 1 14 ?_; refine pu 2 15 ?_; refine tk 3 16 ?_; refine pu 4 17 ?_; refine pu 5 18 ?_; refine pu 6 19 ?_; refine tk 7 20 ?_; refine pu 8 21 ?_; refine tk 9 22 ?_
    have d0 := blk_cell HN2.out 0
    have d1 := blk_cell HN2.out 1
    have d2 := blk_cell HN2.out 2
    have d3 := blk_cell HN2.out 3
    have f0 := blk_frozen HN2.out 0
    have f1 := blk_frozen HN2.out 1
    have f2 := blk_frozen HN2.out 2
    have f3 := blk_frozen HN2.out 3
    refine last_ (i := 10) (N := none) #[true, true, true, true, true, true, true, true, true, true, true] rfl rfl (one_of HT_.out (by kernel_rfl)) (by decide) (fun K hK => ?_)
    refine skip_ (w1 := ?_) (by rfl) rfl ?_ ?_
    rotate_left
    · go_simp
      rfl
    refine hK.out _ _ ?_
    clear hK K
    refine done_ (done_of HT_.out (by kernel_rfl)) ?_
    go_wp2
    rw [et.out]
    refine tok_end (x := nextT l i) rfl rfl rfl ?_ ⟨rfl, ?_⟩
    · exact blk_put (blk_put (blk_put (blk_put HN2.out 0 _ rfl) 1 _ rfl) 2 _ rfl) 3 _ rfl
    · exact below_set (below_set (below_set (below_set hE2.out (Nat.le_refl _)) (Nat.le_refl _)) (Nat.le_refl _)) (Nat.le_refl _)
  · have b1 : decide ((i : Int) < (l.length : Int)) = false := decide_eq_false (by omega)
    go_enter Tryd.func161, Tryd.ntmps161
    go_wp2
    go_quiet (fail)
    have HN1 := Aside0.mk (blk_drewN HN.out nq)
    have hE1 := Aside0.mk (pw_below_drewN hE.out nq)
    generalize (w.alloc (.cells #[.int .i64 0, .string ⟨#[]⟩, .int .i64 0, .int .i64 0] 32)).drewN nq = w1 at HN1 hE1 ⊢
    clear c0 c1 HB HN hE
    have d0 := blk_cell HN1.out 0
    have d1 := blk_cell HN1.out 1
    have d2 := blk_cell HN1.out 2
    have d3 := blk_cell HN1.out 3
    have f0 := blk_frozen HN1.out 0
    have f1 := blk_frozen HN1.out 1
    have f2 := blk_frozen HN1.out 2
    have f3 := blk_frozen HN1.out 3
    go_wp2
    refine tok_end (x := nextT l i) rfl rfl rfl ?_ ⟨rfl, ?_⟩
    · rw [nextT_end hi]
      exact blk_put (blk_put (blk_put (blk_put HN1.out 0 _ rfl) 1 _ rfl) 2 _ rfl) 3 _ rfl
    · exact below_set (below_set (below_set (below_set hE1.out (Nat.le_refl _)) (Nat.le_refl _)) (Nat.le_refl _)) (Nat.le_refl _)
theorem C_str1 {w : World} {g : Nat} {s : ByteArray} (h : w.heap[g]? = some (.cells #[.string s] 9 (0, 0))) : Kd.C Kd.string w (some ⟨g, 0, none⟩) [s].length [s] :=
  Kd.C_of_reads (d := ByteArray.empty) ⟨rfl, by simp, fun _ => ⟨_, rfl, fun j hj => by
    have hj0 : j = 0 := by simp at hj; exact hj
    subst hj0
    rw [add_plain]; exact blk_cell h 0⟩⟩
theorem C_str2 {w : World} {g : Nat} {s s' : ByteArray} (h : w.heap[g]? = some (.cells #[.string s, .string s'] 9 (0, 0))) : Kd.C Kd.string w (some ⟨g, 0, none⟩) [s, s'].length [s, s'] :=
  Kd.C_of_reads (d := ByteArray.empty) ⟨rfl, by simp, fun _ => ⟨_, rfl, fun j hj => by
    have hj0 : j = 0 ∨ j = 1 := by simp at hj; omega
    rcases hj0 with rfl | rfl
    · rw [add_plain]; exact blk_cell h 0
    · rw [add_plain]; exact blk_cell h 1⟩⟩
theorem isT_lt {l : List S32} {i : Nat} {ss : List ByteArray} (h : isT (nextT l i) ss = true) : i < l.length := by
  by_cases hi : i < l.length
  · exact hi
  · rw [nextT_end hi, isT_end] at h; cases h
theorem is_some (t : S32) (ss : List ByteArray) (hs : ss.length ≤ 1000000) : ∃ k, tok_Token_Is.f k t.f0 t.f1 t.f2 t.f3 ss = some (isT t ss) := (Sp.is_ev ss hs t.f0 t.f1 t.f2 t.f3).get
set_option maxHeartbeats 4000000 in
set_option maxRecDepth 100000 in
theorem take_calls {w0 w : World} {g : Nat} {A : Option Addr} {c : Nat} {l : List S32} {i : Nat} {e : List S156} (h : IsP w0 w g A c l (i : Int) e) (s : ByteArray) (b : Bool) (hb : isT (nextT l i) [s] = b) :
    Calls Tryd.prog 155 #[.pointer (some ⟨g, 0, none⟩), .string s] w fun x w' => x = .returned (.bool b) ∧ IsP w0 w' g A c l (if b = true then ((i + 1 : Nat) : Int) else (i : Int)) e ∧ KeepT w w' := by
  have H := Aside0.mk h
  have hlt := Aside0.mk (fun h1 : b = true => isT_lt (hb.trans h1))
  have hlm := Aside0.mk (show l.length ≤ 9223372036854775807 by obtain ⟨_, _, _, _, h4, _⟩ := h; exact h4.2.1)
  obtain ⟨k, hk0⟩ := is_some (nextT l i) [s] (by simp)
  rw [hb] at hk0
  have hk := Aside0.mk hk0
  clear h hb hk0
  go_enter Tryd.func155, Tryd.ntmps155
  go_wp2_with (go_at_call 161; refine (next_calls H.out).mono ?_)
  rintro x w1 ⟨rfl, hb1⟩
  have H1 := Aside0.mk (IsP.below H.out hb1)
  have K1 := Aside0.mk (KeepT.of_below hb1)
  clear hb1
  generalize nextT l i = t at hk ⊢
  have hC := Aside0.mk (C_str1 (blk_new w1 (.cells #[.string s] 9)))
  have H2 := Aside0.mk (IsP.below H1.out (below_alloc (Below.refl _ _) (.cells #[.string s] 9)))
  go_wp2_with (go_at_call 23; refine (tok_Token_Is.calls k t.f0 t.f1 t.f2 t.f3 _ 1 [s] b _ hC.out (by simp) hk.out).mono ?_)
  rintro x w2 ⟨rfl, hb2⟩
  have H3 := Aside0.mk (IsP.below H2.out hb2)
  have K3 := Aside0.mk (K1.out.trans ((KeepT.of_below (below_alloc (Below.refl _ _) (.cells #[.string s] 9))).trans (KeepT.of_below hb2)))
  clear hb2
  cases b with
  | false =>
    go_wp2
    go_ret
    exact ⟨rfl, H3.out, K3.out⟩
  | true =>
    have h3 := H3.out
    obtain ⟨ve, k1, _⟩ := h3
    have c1 := blk_cell k1 1
    have f1 := blk_frozen k1 1
    have hi := hlt.out rfl
    have hm := hlm.out
    clear k1
    go_wp2
    go_ret
    exact ⟨rfl, IsP.set_at H3.out _, K3.out.trans (IsP.keep_at H3.out _)⟩
def addR : Bool × List (List Nat × List Nat) := (true, [([], []), ([], []), ([1], [1]), ([2], [2]), ([3], [3]), ([], []), ([5], [5]), ([4, 6], [4, 6]), ([0, 0, 1, 2, 3, 4, 5, 6, 7], [0]), ([8, 0, 1, 2, 3, 4, 5, 6, 7], [8]), ([9, 7, 7, 0, 1, 2, 3, 4, 5, 6, 7], [7, 9])])
def addB : List Nat := [0, 0, 2, 6, 14, 0, 32, 126, 255, 511, 1023]
theorem addTab : rtab .any (opsOf Tryd.f140 1) = addR := by kernel_rfl
theorem addBits : waitsOk addR.2 addB = true := by kernel_rfl
theorem addInfo : (Tryd.prog.info? 156).map (fun i => (i.zero, i.size, i.bytes)) = some (some (.agg #[(.int .i64 0), (.int .i64 0), (.int .i64 0), (.string ⟨#[]⟩), (.string ⟨#[]⟩), (.int .i64 0), (.int .i64 0)]), 7, 72) := by kernel_rfl
theorem IsP.put {w0 W1 : World} {g : Nat} {A : Option Addr} {c : Nat} {l : List S32} {i : Int} {e1 : List S156} {ve v1 : Value} (hb : W1.heap[g]? = some (.cells #[.slice A l.length c, .int .i64 i, ve] 174 (0, 0))) (h2 : w0.heap.size ≤ g)
    (ho : Kd.R k156 156 W1 w0.heap.size (fun k => k ≠ g) v1 e1) (h4 : Kd.C k32 w0 A l.length l) (h5 : l.length ≤ c) (h6 : Below w0.heap.size w0 W1) : IsP w0 (W1.setCell ⟨g, 2, none⟩ v1) g A c l i e1 :=
  ⟨v1, blk_put hb 2 _ rfl, h2, Kd.R_far ho (fun k hk => hk) _, h4, h5, below_set h6 h2⟩
set_option maxHeartbeats 4000000 in
set_option maxRecDepth 100000 in
theorem add_calls {w0 w : World} {g : Nat} {A : Option Addr} {c : Nat} {l : List S32} {i : Int} {e : List S156} (h : IsP w0 w g A c l i e) (n : S156) (he : e.length ≤ 1000000) :
    Calls Tryd.prog 140 #[.pointer (some ⟨g, 0, none⟩), .agg #[.int .i64 n.f0, .int .i64 n.f1.f0, .int .i64 n.f1.f1, .string n.f1.f2, .string n.f2, .int .i64 n.f3, .int .i64 n.f4]] w fun x w' => x = .returned (.bool true) ∧ IsP w0 w' g A c l i (e ++ [n]) ∧ KeepT w w' := by
  have H := Aside0.mk (IsP.below h (below_alloc (Below.refl _ _) (.cells #[.int .i64 n.f0, .int .i64 n.f1.f0, .int .i64 n.f1.f1, .string n.f1.f2, .string n.f2, .int .i64 n.f3, .int .i64 n.f4] 156)))
  have HN := Aside0.mk (blk_new w (.cells #[.int .i64 n.f0, .int .i64 n.f1.f0, .int .i64 n.f1.f1, .string n.f1.f2, .string n.f2, .int .i64 n.f3, .int .i64 n.f4] 156))
  have hsz := h.bel.size
  have K0 := Aside0.mk ((KeepT.of_below (below_alloc (Below.refl w.heap.size w) (.cells #[.int .i64 n.f0, .int .i64 n.f1.f0, .int .i64 n.f1.f1, .string n.f1.f2, .string n.f2, .int .i64 n.f3, .int .i64 n.f4] 156))).trans (KeepT.of_below (below_drew (Below.refl (w.alloc (.cells #[.int .i64 n.f0, .int .i64 n.f1.f0, .int .i64 n.f1.f1, .string n.f1.f2, .string n.f2, .int .i64 n.f3, .int .i64 n.f4] 156)).heap.size (w.alloc (.cells #[.int .i64 n.f0, .int .i64 n.f1.f0, .int .i64 n.f1.f1, .string n.f1.f2, .string n.f2, .int .i64 n.f3, .int .i64 n.f4] 156))))))
  clear h
  go_enter Tryd.func140, Tryd.ntmps140
  go_wp2
  have HN := Aside0.mk (blk_drew HN.out)
  have H := Aside0.mk (IsP.below H.out (below_drew (Below.refl _ _)))
  have hsz1 : w0.heap.size ≤ (w.alloc (.cells #[.int .i64 n.f0, .int .i64 n.f1.f0, .int .i64 n.f1.f1, .string n.f1.f2, .string n.f2, .int .i64 n.f3, .int .i64 n.f4] 156)).drew.heap.size := H.out.bel.size
  have h0 := H.out
  obtain ⟨ve, h1, h2, h3, h4, h5, h6⟩ := h0
  have B1 := Aside0.mk h1
  have G2 := Aside0.mk h2
  have R3 := Aside0.mk h3
  have C4 := Aside0.mk h4
  have L5 := Aside0.mk h5
  have B6 := Aside0.mk h6
  clear h1 h2 h3 h4 h5 h6 H
  obtain ⟨A2, c2, ev⟩ := Kd.R_slice R3.out
  subst ev
  refine start_ (n := 11) (S := fun w' => w'.cell? ⟨g, 2, none⟩ = some (.slice A2 e.length c2) ∧ w'.cell? ⟨w.heap.size, 0, none⟩ = some (.int .i64 n.f0) ∧ w'.cell? ⟨w.heap.size, 1, none⟩ = some (.int .i64 n.f1.f0) ∧ w'.cell? ⟨w.heap.size, 2, none⟩ = some (.int .i64 n.f1.f1) ∧ w'.cell? ⟨w.heap.size, 3, none⟩ = some (.string n.f1.f2) ∧ w'.cell? ⟨w.heap.size, 4, none⟩ = some (.string n.f2) ∧ w'.cell? ⟨w.heap.size, 5, none⟩ = some (.int .i64 n.f3) ∧ w'.cell? ⟨w.heap.size, 6, none⟩ = some (.int .i64 n.f4)) (ds := [7, 10]) #[false, false, false, false, false, false, false, false, false, false, false] (by kernel_rfl) rfl rfl ⟨blk_cell B1.out 2, blk_cell HN.out 0, blk_cell HN.out 1, blk_cell HN.out 2, blk_cell HN.out 3, blk_cell HN.out 4, blk_cell HN.out 5, blk_cell HN.out 6⟩ (fun hHeld => ?_)
  generalize (w.alloc (.cells #[.int .i64 n.f0, .int .i64 n.f1.f0, .int .i64 n.f1.f1, .string n.f1.f2, .string n.f2, .int .i64 n.f3, .int .i64 n.f4] 156)).drew = w1 at B1 R3 B6 HN K0 hsz1 hHeld ⊢
  refine with_tabW addTab addBits (fun HT_ HW_ => ?_)
  refine pu 0 5 ?_; refine pu 1 6 ?_; refine pu 2 7 ?_; refine pu 3 8 ?_; refine tk 4 9 ?_; refine tk 5 10 ?_
  refine onx 6 11 (fun K hK => ?_)
  refine value_ (w1 := w1.alloc (.cells #[.int .i64 n.f0, .int .i64 n.f1.f0, .int .i64 n.f1.f1, .string n.f1.f2, .string n.f2, .int .i64 n.f3, .int .i64 n.f4] 156)) (v := .slice (some ⟨w1.heap.size, 0, none⟩) 1 1) (by rfl) rfl ?_ ?_
  · go_simp
  refine hK.out _ _ ⟨(blk_cell (blk_alloc B1.out _) 2).trans rfl, (blk_cell (blk_alloc HN.out _) 0).trans rfl, (blk_cell (blk_alloc HN.out _) 1).trans rfl, (blk_cell (blk_alloc HN.out _) 2).trans rfl, (blk_cell (blk_alloc HN.out _) 3).trans rfl, (blk_cell (blk_alloc HN.out _) 4).trans rfl, (blk_cell (blk_alloc HN.out _) 5).trans rfl, (blk_cell (blk_alloc HN.out _) 6).trans rfl⟩ (fun hHeld => ?_)
  clear hK K
  refine nm 11 ?_
  refine last_ (i := 7) (N := some 12) #[true, true, true, true, true, true, true, true, false, false, false] rfl rfl (one_of HT_.out (by kernel_rfl)) (by decide) (fun K hK => ?_)
  refine Kd.R_append_step k156 (w0 := w0) w0.heap.size (by rfl) (.tmp 9) (.tmp 11) 83 156 (.agg #[(.int .i64 0), (.int .i64 0), (.int .i64 0), (.string ⟨#[]⟩), (.string ⟨#[]⟩), (.int .i64 0), (.int .i64 0)]) 72 rfl Tryd.underlying83 addInfo rfl (by decide) (by omega) (.slice A2 e.length c2) e n [.int .i64 n.f0, .int .i64 n.f1.f0, .int .i64 n.f1.f1, .string n.f1.f2, .string n.f2, .int .i64 n.f3, .int .i64 n.f4] (fun k => k ≠ g) (fun _ => False) rfl rfl ?aP (fun _ hk => hk.elim) ?aF ?aO ?aB ?aS ?aL ?_
  case aP => exact k156_mkM _ _ _ n
  case aF => exact fun k hk => by have := blk_lt B1.out; omega
  case aO => exact R3.out
  case aB => exact B6.out
  case aS => exact hsz1
  case aL => omega
  intro v4 w4 ho hb hg hat
  have B4 := Aside0.mk (blk_grown B1.out hg (fun ee => R3.out.1 g ee.symm rfl))
  have O4 := Aside0.mk ho
  have K4 := Aside0.mk (K0.out.trans (KeepT.grown R3.out hg))
  have B5 := Aside0.mk hb
  clear ho hb hg hat
  refine hK.out _ _ ?_
  clear hK K
  refine nm 12 ?_
  refine pu 8 13 ?_; refine pu 9 14 ?_
  have c2 := blk_cell B4.out 2
  have f2 := blk_frozen B4.out 2
  have h8 := O4.out
  obtain ⟨A5, c5, ev⟩ := Kd.R_slice h8
  subst ev
  clear h8
  refine last_ (i := 10) (N := none) #[true, true, true, true, true, true, true, true, true, true, true] rfl rfl (one_of HT_.out (by kernel_rfl)) (by decide) (fun K hK => ?_)
  refine skip_ (w1 := ?_) (by rfl) rfl ?_ ?_
  rotate_left
  · go_simp
    rfl
  refine hK.out _ _ ?_
  clear hK K
  refine done_ (done_of HT_.out (by kernel_rfl)) ?_
  go_wp2
  go_ret
  have h9 := O4.out
  rw [show (e ++ [n]).length = e.length + 1 by simp] at h9
  exact ⟨rfl, IsP.put B4.out G2.out h9 C4.out L5.out B5.out, K4.out.trans (KeepT.set_ B4.out 2 _)⟩
def nameT (t : S32) : Bool := (t.f0 == 1) && !decide (t.f1.data.toList ∈ Sp.meanWords)
theorem nameT_lt {l : List S32} {i : Nat} (h : nameT (nextT l i) = true) : i < l.length := by
  by_cases hi : i < l.length
  · exact hi
  · rw [nextT_end hi] at h; exact absurd h (by decide)
def nodeN (op : Int) (s : ByteArray) : S156 := ⟨op, ⟨0, 0, ⟨#[]⟩⟩, s, 0, 0⟩
set_option maxHeartbeats 4000000 in
set_option maxRecDepth 100000 in
theorem name_no {w0 w : World} {g : Nat} {A : Option Addr} {c : Nat} {l : List S32} {i : Nat} {e : List S156} (h : IsP w0 w g A c l (i : Int) e) (op : Int) (hn : nameT (nextT l i) = false) :
    Calls Tryd.prog 162 #[.pointer (some ⟨g, 0, none⟩), .int .i64 op] w fun x w' => x = .returned (.bool false) ∧ Below w0.heap.size w0 w' := by
  have H := Aside0.mk h
  have HN := Aside0.mk hn
  clear h hn
  go_enter Tryd.func162, Tryd.ntmps162
  go_wp2_with (go_at_call 161; refine (next_calls H.out).mono ?_)
  rintro x w1 ⟨rfl, hb1⟩
  have H1 := Aside0.mk (below_step H.out.bel hb1)
  clear hb1
  generalize nextT l i = t at HN ⊢
  have hT := Aside0.mk (blk_put (blk_put (blk_put (blk_put (blk_new w1 (.cells #[.int .i64 0, .string ⟨#[]⟩, .int .i64 0, .int .i64 0] 32)) 0 (.int .i64 t.f0) rfl) 1 (.string t.f1) rfl) 2 (.int .i64 t.f2) rfl) 3 (.int .i64 t.f3) rfl)
  have hn := HN.out
  unfold nameT at hn
  by_cases h1 : t.f0 = 1
  · rw [h1] at hn
    have hm := Aside0.mk (show tok_Means.f t.f1 = some true by rw [Sp.tMeans_eq]; simpa using hn)
    have b1 : (t.f0 != 1) = false := by rw [h1]; rfl
    clear hn h1
    go_wp2_with (go_at_call 28; refine (tok_Means.calls t.f1 true _ hm.out).mono ?_)
    rintro x w2 ⟨rfl, hd⟩
    obtain ⟨nd, rfl⟩ := hd
    go_wp2
    go_ret
    exact ⟨rfl, by repeat (first | (with_reducible exact H1.out) | (with_reducible apply below_alloc) | (with_reducible apply pw_below_drewN) | (with_reducible apply below_drew1) | (with_reducible refine below_set ?_ H1.out.size))⟩
  · have b1 : (t.f0 != 1) = true := bne_iff_ne.2 h1
    clear hn h1
    go_wp2
    go_ret
    exact ⟨rfl, by repeat (first | (with_reducible exact H1.out) | (with_reducible apply below_alloc) | (with_reducible apply pw_below_drewN) | (with_reducible apply below_drew1) | (with_reducible refine below_set ?_ H1.out.size))⟩
theorem IsP.far {w0 W : World} {g : Nat} {A : Option Addr} {c : Nat} {l : List S32} {i : Int} {e : List S156} (h : IsP w0 W g A c l i e) {b : Nat} (hb : W.heap.size ≤ b) {W1 : World} (hs : W1.heap.size = b + 1) (hB : Below W.heap.size W W1) (j : Nat) (u : Value) : IsP w0 (W1.setCell ⟨b, j, none⟩ u) g A c l i e :=
  h.below (Below.setCell hB hb _)
set_option maxHeartbeats 4000000 in
set_option maxRecDepth 100000 in
theorem name_yes {w0 w : World} {g : Nat} {A : Option Addr} {c : Nat} {l : List S32} {i : Nat} {e : List S156} (h : IsP w0 w g A c l (i : Int) e) (op : Int) (he : e.length ≤ 1000000) (hn : nameT (nextT l i) = true) :
    Calls Tryd.prog 162 #[.pointer (some ⟨g, 0, none⟩), .int .i64 op] w fun x w' => x = .returned (.bool true) ∧ IsP w0 w' g A c l ((i + 1 : Nat) : Int) (e ++ [nodeN op (nextT l i).f1]) ∧ KeepT w w' := by
  have H := Aside0.mk h
  have hi := nameT_lt hn
  have HN := Aside0.mk hn
  have hm : l.length ≤ 9223372036854775807 := by obtain ⟨_, _, _, _, h4, _⟩ := h; exact h4.2.1
  clear h hn
  go_enter Tryd.func162, Tryd.ntmps162
  go_wp2_with (go_at_call 161; refine (next_calls H.out).mono ?_)
  rintro x w1 ⟨rfl, hb1⟩
  have H1 := Aside0.mk (IsP.below H.out hb1)
  have K1 := Aside0.mk (KeepT.of_below hb1)
  clear hb1
  generalize et0 : nextT l i = t at HN ⊢
  have et := Aside0.mk et0
  clear et0
  have hn := HN.out
  unfold nameT at hn
  rw [Bool.and_eq_true] at hn
  have b1 : (t.f0 != 1) = false := bne_eq_false_iff_eq.2 (beq_iff_eq.1 hn.1)
  have hm1 := Aside0.mk (show tok_Means.f t.f1 = some false by rw [Sp.tMeans_eq]; have := hn.2; simpa using this)
  clear hn HN
  have hT := Aside0.mk (blk_new w1 (.cells #[.int .i64 t.f0, .string t.f1, .int .i64 t.f2, .int .i64 t.f3] 32))
  have H2 := Aside0.mk (IsP.below H1.out (below_alloc (Below.refl w1.heap.size w1) (.cells #[.int .i64 t.f0, .string t.f1, .int .i64 t.f2, .int .i64 t.f3] 32)))
  go_wp2_with (go_at_call 28; refine (tok_Means.calls t.f1 false _ hm1.out).mono ?_)
  rintro x w2 ⟨rfl, hd⟩
  obtain ⟨nd, rfl⟩ := hd
  have H3 := Aside0.mk (IsP.below H2.out (pw_below_drewN (Below.refl _ _) nd))
  have hT3 := Aside0.mk (blk_drewN hT.out nd)
  have K3 := Aside0.mk (K1.out.trans ((KeepT.of_below (below_alloc (Below.refl w1.heap.size w1) (.cells #[.int .i64 t.f0, .string t.f1, .int .i64 t.f2, .int .i64 t.f3] 32))).trans (KeepT.of_below (pw_below_drewN (Below.refl (w1.alloc (.cells #[.int .i64 t.f0, .string t.f1, .int .i64 t.f2, .int .i64 t.f3] 32)).heap.size (w1.alloc (.cells #[.int .i64 t.f0, .string t.f1, .int .i64 t.f2, .int .i64 t.f3] 32))) nd))))
  clear hT H2
  generalize (w1.alloc (.cells #[.int .i64 t.f0, .string t.f1, .int .i64 t.f2, .int .i64 t.f3] 32)).drewN nd = w3 at H3 hT3 K3 ⊢
  have h3 := H3.out
  obtain ⟨ve, k1, _⟩ := h3
  have c1 := blk_cell k1 1
  have f1 := blk_frozen k1 1
  have d1 := blk_cell (blk_far hT3.out (p := ⟨g, 1, none⟩) (by have := H1.out; obtain ⟨_, q, _⟩ := this; have := blk_lt q; simp only; omega) (.int .i64 ((i + 1 : Nat) : Int))) 1
  have H4 := Aside0.mk (IsP.set_at H3.out ((i + 1 : Nat) : Int))
  clear k1
  rw [show ((i + 1 : Nat) : Int) = (i : Int) + 1 by omega] at d1 H4
  go_wp2_with (go_at_call 140; refine (add_calls H4.out (nodeN op t.f1) he).mono ?_)
  rintro x w4 ⟨rfl, h5, k5⟩
  have H5 := Aside0.mk h5
  have K5 := Aside0.mk (K3.out.trans ((IsP.keep_at H3.out _).trans k5))
  clear h5 k5
  go_wp2
  go_ret
  rw [et.out, show ((i + 1 : Nat) : Int) = (i : Int) + 1 by omega]
  exact ⟨rfl, H5.out, K5.out⟩
structure Lev where
  signs : List ByteArray
  ops : List Int
  once : Bool
def levelsL : List Lev := [⟨[⟨#[111, 114]⟩], [15], false⟩, ⟨[⟨#[97, 110, 100]⟩], [14], false⟩, ⟨[⟨#[60]⟩, ⟨#[60, 61]⟩, ⟨#[62]⟩, ⟨#[62, 61]⟩, ⟨#[61]⟩, ⟨#[33, 61]⟩], [8, 9, 10, 11, 12, 13], true⟩, ⟨[⟨#[43]⟩, ⟨#[45]⟩], [6, 7], false⟩, ⟨[⟨#[42]⟩, ⟨#[47]⟩, ⟨#[37]⟩], [3, 4, 5], false⟩]
def HasLev (W : World) (a : Nat) : Prop := ∃ s0 o0 s1 o1 s2 o2 s3 o3 s4 o4, W.heap[a]? = some (.cells #[.slice (some ⟨s0, 0, none⟩) 1 1, .slice (some ⟨o0, 0, none⟩) 1 1, .bool false, .slice (some ⟨s1, 0, none⟩) 1 1, .slice (some ⟨o1, 0, none⟩) 1 1, .bool false, .slice (some ⟨s2, 0, none⟩) 6 6, .slice (some ⟨o2, 0, none⟩) 6 6, .bool true, .slice (some ⟨s3, 0, none⟩) 2 2, .slice (some ⟨o3, 0, none⟩) 2 2, .bool false, .slice (some ⟨s4, 0, none⟩) 3 3, .slice (some ⟨o4, 0, none⟩) 3 3, .bool false] 197 (0, 0)) ∧ W.heap[s0]? = some (.cells #[.string ⟨#[111, 114]⟩] 9 (0, 0)) ∧ W.heap[o0]? = some (.cells #[.int .i64 15] 3 (0, 0)) ∧ W.heap[s1]? = some (.cells #[.string ⟨#[97, 110, 100]⟩] 9 (0, 0)) ∧ W.heap[o1]? = some (.cells #[.int .i64 14] 3 (0, 0)) ∧ W.heap[s2]? = some (.cells #[.string ⟨#[60]⟩, .string ⟨#[60, 61]⟩, .string ⟨#[62]⟩, .string ⟨#[62, 61]⟩, .string ⟨#[61]⟩, .string ⟨#[33, 61]⟩] 9 (0, 0)) ∧ W.heap[o2]? = some (.cells #[.int .i64 8, .int .i64 9, .int .i64 10, .int .i64 11, .int .i64 12, .int .i64 13] 3 (0, 0)) ∧ W.heap[s3]? = some (.cells #[.string ⟨#[43]⟩, .string ⟨#[45]⟩] 9 (0, 0)) ∧ W.heap[o3]? = some (.cells #[.int .i64 6, .int .i64 7] 3 (0, 0)) ∧ W.heap[s4]? = some (.cells #[.string ⟨#[42]⟩, .string ⟨#[47]⟩, .string ⟨#[37]⟩] 9 (0, 0)) ∧ W.heap[o4]? = some (.cells #[.int .i64 3, .int .i64 4, .int .i64 5] 3 (0, 0))
theorem HasLev.keep {W W1 : World} {a : Nat} (h : HasLev W a) (k : KeepT W W1) : HasLev W1 a := by
  obtain ⟨s0, o0, s1, o1, s2, o2, s3, o3, s4, o4, h, p0, q0, p1, q1, p2, q2, p3, q3, p4, q4⟩ := h
  exact ⟨s0, o0, s1, o1, s2, o2, s3, o3, s4, o4, k _ _ _ (by decide) (by decide) h, k _ _ _ (by decide) (by decide) p0, k _ _ _ (by decide) (by decide) q0, k _ _ _ (by decide) (by decide) p1, k _ _ _ (by decide) (by decide) q1, k _ _ _ (by decide) (by decide) p2, k _ _ _ (by decide) (by decide) q2, k _ _ _ (by decide) (by decide) p3, k _ _ _ (by decide) (by decide) q3, k _ _ _ (by decide) (by decide) p4, k _ _ _ (by decide) (by decide) q4⟩
theorem new_at {W : World} {n : Nat} (o : Obj) (hn : W.heap.size = n) : (W.alloc o).heap[n]? = some o := by subst hn; exact blk_new W o
theorem sz_al {W : World} {n : Nat} (o : Obj) (h : W.heap.size = n) : (W.alloc o).heap.size = n + 1 := by rw [size_alloc1, h]
set_option maxHeartbeats 4000000 in
set_option maxRecDepth 100000 in
theorem levels_calls (w : World) : Calls Tryd.prog 137 #[] w fun x w' => ∃ a, x = .returned (.slice (some ⟨a, 0, none⟩) 5 5) ∧ HasLev w' a ∧ Below w.heap.size w w' := by
  go_enter Tryd.func137, Tryd.ntmps137
  go_wp2
  go_ret
  have z0 : w.heap.size = w.heap.size := rfl
  have b0 := new_at (.cells #[.string ⟨#[111, 114]⟩] 9) z0
  have z1 := sz_al (.cells #[.string ⟨#[111, 114]⟩] 9) z0
  have b1 := new_at (.cells #[.int .i64 15] 3) z1
  have z2 := sz_al (.cells #[.int .i64 15] 3) z1
  have b2 := new_at (.cells #[.string ⟨#[97, 110, 100]⟩] 9) z2
  have z3 := sz_al (.cells #[.string ⟨#[97, 110, 100]⟩] 9) z2
  have b3 := new_at (.cells #[.int .i64 14] 3) z3
  have z4 := sz_al (.cells #[.int .i64 14] 3) z3
  have b4 := new_at (.cells #[.string ⟨#[60]⟩, .string ⟨#[60, 61]⟩, .string ⟨#[62]⟩, .string ⟨#[62, 61]⟩, .string ⟨#[61]⟩, .string ⟨#[33, 61]⟩] 9) z4
  have z5 := sz_al (.cells #[.string ⟨#[60]⟩, .string ⟨#[60, 61]⟩, .string ⟨#[62]⟩, .string ⟨#[62, 61]⟩, .string ⟨#[61]⟩, .string ⟨#[33, 61]⟩] 9) z4
  have b5 := new_at (.cells #[.int .i64 8, .int .i64 9, .int .i64 10, .int .i64 11, .int .i64 12, .int .i64 13] 3) z5
  have z6 := sz_al (.cells #[.int .i64 8, .int .i64 9, .int .i64 10, .int .i64 11, .int .i64 12, .int .i64 13] 3) z5
  have b6 := new_at (.cells #[.string ⟨#[43]⟩, .string ⟨#[45]⟩] 9) z6
  have z7 := sz_al (.cells #[.string ⟨#[43]⟩, .string ⟨#[45]⟩] 9) z6
  have b7 := new_at (.cells #[.int .i64 6, .int .i64 7] 3) z7
  have z8 := sz_al (.cells #[.int .i64 6, .int .i64 7] 3) z7
  have b8 := new_at (.cells #[.string ⟨#[42]⟩, .string ⟨#[47]⟩, .string ⟨#[37]⟩] 9) z8
  have z9 := sz_al (.cells #[.string ⟨#[42]⟩, .string ⟨#[47]⟩, .string ⟨#[37]⟩] 9) z8
  have b9 := new_at (.cells #[.int .i64 3, .int .i64 4, .int .i64 5] 3) z9
  have z10 := sz_al (.cells #[.int .i64 3, .int .i64 4, .int .i64 5] 3) z9
  have b10 := new_at (.cells #[.slice (some ⟨w.heap.size, 0, none⟩) 1 1, .slice (some ⟨w.heap.size + 1, 0, none⟩) 1 1, .bool false, .slice (some ⟨w.heap.size + 1 + 1, 0, none⟩) 1 1, .slice (some ⟨w.heap.size + 1 + 1 + 1, 0, none⟩) 1 1, .bool false, .slice (some ⟨w.heap.size + 1 + 1 + 1 + 1, 0, none⟩) 6 6, .slice (some ⟨w.heap.size + 1 + 1 + 1 + 1 + 1, 0, none⟩) 6 6, .bool true, .slice (some ⟨w.heap.size + 1 + 1 + 1 + 1 + 1 + 1, 0, none⟩) 2 2, .slice (some ⟨w.heap.size + 1 + 1 + 1 + 1 + 1 + 1 + 1, 0, none⟩) 2 2, .bool false, .slice (some ⟨w.heap.size + 1 + 1 + 1 + 1 + 1 + 1 + 1 + 1, 0, none⟩) 3 3, .slice (some ⟨w.heap.size + 1 + 1 + 1 + 1 + 1 + 1 + 1 + 1 + 1, 0, none⟩) 3 3, .bool false] 197) z10
  exact ⟨_, rfl, ⟨_, _, _, _, _, _, _, _, _, _, b10, (blk_alloc (blk_alloc (blk_alloc (blk_alloc (blk_alloc (blk_alloc (blk_alloc (blk_alloc (blk_alloc (blk_alloc b0 _) _) _) _) _) _) _) _) _) _), (blk_alloc (blk_alloc (blk_alloc (blk_alloc (blk_alloc (blk_alloc (blk_alloc (blk_alloc (blk_alloc b1 _) _) _) _) _) _) _) _) _), (blk_alloc (blk_alloc (blk_alloc (blk_alloc (blk_alloc (blk_alloc (blk_alloc (blk_alloc b2 _) _) _) _) _) _) _) _), (blk_alloc (blk_alloc (blk_alloc (blk_alloc (blk_alloc (blk_alloc (blk_alloc b3 _) _) _) _) _) _) _), (blk_alloc (blk_alloc (blk_alloc (blk_alloc (blk_alloc (blk_alloc b4 _) _) _) _) _) _), (blk_alloc (blk_alloc (blk_alloc (blk_alloc (blk_alloc b5 _) _) _) _) _), (blk_alloc (blk_alloc (blk_alloc (blk_alloc b6 _) _) _) _), (blk_alloc (blk_alloc (blk_alloc b7 _) _) _), (blk_alloc (blk_alloc b8 _) _), (blk_alloc b9 _)⟩, qT⟩
theorem C_strs {w : World} {g : Nat} {ss : List ByteArray} (h : w.heap[g]? = some (.cells (ss.map Value.string).toArray 9 (0, 0))) (hl : ss.length ≤ 1000000) : Kd.C Kd.string w (some ⟨g, 0, none⟩) ss.length ss :=
  Kd.C_of_reads (d := ByteArray.empty) ⟨rfl, by omega, fun _ => ⟨_, rfl, fun j hj => by
    rw [add_plain, blk_cell h j, List.getElem?_toArray, List.getElem?_map, List.getElem?_eq_getElem hj, List.getD_eq_getElem?_getD, List.getElem?_eq_getElem hj]; rfl⟩⟩
theorem C_nums {w : World} {g : Nat} {ss : List Int} (h : w.heap[g]? = some (.cells (ss.map (Value.int .i64)).toArray 3 (0, 0))) (hl : ss.length ≤ 1000000) : Kd.C (Kd.int .i64) w (some ⟨g, 0, none⟩) ss.length ss :=
  Kd.C_of_reads (d := 0) ⟨rfl, by omega, fun _ => ⟨_, rfl, fun j hj => by
    rw [add_plain, blk_cell h j, List.getElem?_toArray, List.getElem?_map, List.getElem?_eq_getElem hj, List.getD_eq_getElem?_getD, List.getElem?_eq_getElem hj]; rfl⟩⟩
def opIn : List ByteArray → List Int → S32 → Option Int
  | s :: ss, o :: os, t => if isT t [s] = true then some o else opIn ss os t
  | _, _, _ => none
theorem opIn_hit {t : S32} : ∀ {ss : List ByteArray} {os : List Int} {j : Nat} (hs : j < ss.length) (ho : j < os.length), (∀ k (hk : k < ss.length), k < j → isT t [ss[k]] = false) → isT t [ss[j]] = true → opIn ss os t = some os[j]
  | [], _, j, hs, _, _, _ => by simp at hs
  | s :: ss, [], j, _, ho, _, _ => by simp at ho
  | s :: ss, o :: os, 0, _, _, _, h => by
    simp only [opIn]
    exact if_pos h
  | s :: ss, o :: os, j + 1, hs, ho, hno, h => by
    simp only [opIn]
    have h0 := hno 0 (by simp) (by omega)
    simp only [List.getElem_cons_zero] at h0
    rw [if_neg (by rw [h0]; decide)]
    refine opIn_hit (by simpa using hs) (by simpa using ho) (fun k hk hkj => ?_) h
    have := hno (k + 1) (by simpa using hk) (by omega)
    simpa using this
theorem opIn_miss {t : S32} : ∀ {ss : List ByteArray} {os : List Int}, (∀ k (hk : k < ss.length), isT t [ss[k]] = false) → opIn ss os t = none
  | [], _, _ => rfl
  | s :: ss, [], _ => rfl
  | s :: ss, o :: os, h => by
    simp only [opIn]
    have h0 := h 0 (by simp)
    simp only [List.getElem_cons_zero] at h0
    rw [if_neg (by rw [h0]; decide)]
    exact opIn_miss (fun k hk => by have := h (k + 1) (by simpa using hk); simpa using this)
theorem ints_at {w : World} {A : Option Addr} {xs : List Int} (h : Kd.C (Kd.int .i64) w A xs.length xs) {j : Nat} (hj : j < xs.length) : ∃ ad, A = some ad ∧ w.cell? (ad.add j) = some (.int .i64 xs[j]) := by
  obtain ⟨ad, e, hc⟩ := ReadsOf.at_ (Kd.reads_of_C (d := (0 : Int)) h) (j : Int) (by omega) (by omega)
  refine ⟨ad, e, ?_⟩
  rw [Int.toNat_natCast] at hc
  rw [hc]
  unfold rdOf
  rw [Int.toNat_natCast, List.getD_eq_getElem?_getD, List.getElem?_eq_getElem hj]; rfl
theorem strs_at {w : World} {A : Option Addr} {xs : List ByteArray} (h : Kd.C Kd.string w A xs.length xs) {j : Nat} (hj : j < xs.length) : ∃ ad, A = some ad ∧ w.cell? (ad.add j) = some (.string xs[j]) := by
  obtain ⟨ad, e, hc⟩ := ReadsOf.at_ (Kd.reads_of_C (d := ByteArray.empty) h) (j : Int) (by omega) (by omega)
  refine ⟨ad, e, ?_⟩
  rw [Int.toNat_natCast] at hc
  rw [hc]
  unfold rdOf
  rw [Int.toNat_natCast, List.getD_eq_getElem?_getD, List.getElem?_eq_getElem hj]; rfl
def OpPost (w0 w : World) (g : Nat) (A : Option Addr) (c : Nat) (l : List S32) (i : Nat) (e : List S156) (r : Option Int) (x : Ending) (w' : World) : Prop :=
  x = .returned (.int .i64 (r.getD 0)) ∧ IsP w0 w' g A c l (match r with | some _ => ((i + 1 : Nat) : Int) | none => (i : Int)) e ∧ KeepT w w'
set_option maxHeartbeats 4000000 in
set_option maxRecDepth 100000 in
theorem op_calls {w0 w : World} {g : Nat} {A : Option Addr} {c : Nat} {l : List S32} {i : Nat} {e : List S156} (h : IsP w0 w g A c l (i : Int) e) (sb ob : Nat) (ss : List ByteArray) (os : List Int) (hl : ss.length = os.length) (hl2 : ss.length ≤ 1000000) (bo : Bool)
    (hs : w.heap[sb]? = some (.cells (ss.map Value.string).toArray 9 (0, 0))) (ho : w.heap[ob]? = some (.cells (os.map (Value.int .i64)).toArray 3 (0, 0))) :
    Calls Tryd.prog 139 #[.pointer (some ⟨g, 0, none⟩), .agg #[.slice (some ⟨sb, 0, none⟩) ss.length ss.length, .slice (some ⟨ob, 0, none⟩) os.length os.length, .bool bo]] w (OpPost w0 w g A c l i e (opIn ss os (nextT l i))) := by
  have H := Aside0.mk (IsP.below h (below_alloc (Below.refl _ _) (.cells #[.slice (some ⟨sb, 0, none⟩) ss.length ss.length, .slice (some ⟨ob, 0, none⟩) os.length os.length, .bool bo] 197)))
  have K := Aside0.mk (KeepT.of_below (below_alloc (Below.refl w.heap.size w) (.cells #[.slice (some ⟨sb, 0, none⟩) ss.length ss.length, .slice (some ⟨ob, 0, none⟩) os.length os.length, .bool bo] 197)))
  have B := Aside0.mk (blk_new w (.cells #[.slice (some ⟨sb, 0, none⟩) ss.length ss.length, .slice (some ⟨ob, 0, none⟩) os.length os.length, .bool bo] 197))
  have S := Aside0.mk (blk_alloc hs (.cells #[.slice (some ⟨sb, 0, none⟩) ss.length ss.length, .slice (some ⟨ob, 0, none⟩) os.length os.length, .bool bo] 197))
  have O := Aside0.mk (blk_alloc ho (.cells #[.slice (some ⟨sb, 0, none⟩) ss.length ss.length, .slice (some ⟨ob, 0, none⟩) os.length os.length, .bool bo] 197))
  have HL := Aside0.mk hl
  clear h hs ho hl
  generalize hT : nextT l i = t
  have ET := Aside0.mk hT
  clear hT
  go_enter Tryd.func139, Tryd.ntmps139
  have c0 := blk_cell B.out 0
  go_wp2
  generalize w.alloc (.cells #[.slice (some ⟨sb, 0, none⟩) ss.length ss.length, .slice (some ⟨ob, 0, none⟩) os.length os.length, .bool bo] 197) = w1 at H K B S O c0 ⊢
  clear c0
  go_loopg [10] ss.length (fun kq v10 wr => ∃ (j : Nat), v10 = .int .i64 (j : Int) ∧ Aside0 (kq = ss.length - j) ∧ Aside0 (j ≤ ss.length) ∧ Aside0 (∀ k (hk : k < ss.length), k < j → isT t [ss[k]] = false) ∧ Aside0 (IsP w0 wr g A c l (i : Int) e) ∧ Aside0 (KeepT w1 wr))
  case atStart => exact ⟨0, rfl, ⟨rfl⟩, ⟨Nat.zero_le _⟩, ⟨fun k hk h => absurd h (Nat.not_lt_zero _)⟩, H, ⟨fun b cs t _ _ h => h⟩⟩
  case round =>
    obtain ⟨j, rfl, hk, hj, hno, HP, HK⟩ := hrel
    by_cases hlt : j < ss.length
    · have b1 : decide ((j : Int) < (ss.length : Int)) = true := decide_eq_true (by omega)
      have b2 : decide (0 ≤ (j : Int)) = true := decide_eq_true (by omega)
      obtain ⟨ad, eA, q0⟩ := strs_at (C_strs (HK.out _ _ _ (by decide) (by decide) S.out) hl2) hlt
      cases eA
      rw [add_plain] at q0
      cases hb : isT t [ss[j]] with
      | false =>
        have HB := Aside0.mk hb
        clear hb
        go_wp2_with (go_at_call 155; refine (take_calls HP.out ss[j] false (by rw [ET.out]; exact HB.out)).mono ?_)
        rintro x w2 rfl hp hkk
        have HP2 := Aside0.mk hp
        have HK2 := Aside0.mk (HK.out.trans hkk)
        clear hp hkk
        go_wp2
        go_roundg (ss.length - (j + 1))
        case rel => exact ⟨j + 1, rfl, ⟨rfl⟩, ⟨hlt⟩, ⟨fun k hk hkj => by
          by_cases h1 : k < j
          · exact hno.out k hk h1
          · have : k = j := by omega
            subst this
            exact HB.out⟩, HP2, HK2⟩
        case measure => have := hk.out; omega
      | true =>
        have HB := Aside0.mk hb
        have HR := Aside0.mk (opIn_hit hlt (by rw [← HL.out]; exact hlt) hno.out hb)
        clear hb
        go_wp2_with (go_at_call 155; refine (take_calls HP.out ss[j] true (by rw [ET.out]; exact HB.out)).mono ?_)
        rintro x w2 rfl hp hkk
        have HP2 := Aside0.mk hp
        have HK2 := Aside0.mk (HK.out.trans hkk)
        clear hp hkk
        have hjo : j < os.length := by rw [← HL.out]; exact hlt
        have b3 : decide ((j : Int) < (os.length : Int)) = true := decide_eq_true (by omega)
        obtain ⟨ad2, eA2, q1⟩ := ints_at (C_nums (HK2.out _ _ _ (by decide) (by decide) O.out) (by rw [← HL.out]; exact hl2)) hjo
        cases eA2
        rw [add_plain] at q1
        have c1 := blk_cell (HK2.out _ _ _ (by decide) (by decide) B.out) 1
        go_wp2
        go_ret
        rw [HR.out]
        exact ⟨rfl, HP2.out, K.out.trans HK2.out⟩
    · have b1 : decide ((j : Int) < (ss.length : Int)) = false := decide_eq_false (by omega)
      have HR := Aside0.mk (opIn_miss (t := t) (os := os) (fun k hk => hno.out k hk (by omega)))
      go_wp2
      go_ret
      rw [HR.out]
      exact ⟨rfl, HP.out, K.out.trans HK.out⟩
end Go.Proofs.YtbngfhlciebeeaaDoor.L
end
section
namespace Go.Proofs.YtbngfhlciebeeaaDoor.L
open Go.RowKit Go.Proofs.YtbngfhlciebeeaaDoorW.PrintWords Go.Proofs.YtbngfhlciebeeaaDoorW.PrintLast Go.Proofs.YtbngfhlciebeeaaDoorW.PrintMore
attribute [local go_sem] max2_int min2_int max_two min_two max_three min_three max_four min_four   -- for this text's walks alone
set_option linter.unusedVariables false
set_option linter.unusedSimpArgs false
def val_Of.f (a0 : Int) : Option (Int × Int × ByteArray) := some (1, a0, (⟨#[]⟩ : ByteArray))
set_option maxHeartbeats 8000000 in
set_option maxRecDepth 100000 in
theorem val_Of.calls (a0 : Int) (r1 : Int) (r2 : Int) (r3 : ByteArray) (w : World) (h : val_Of.f a0 = some (r1, r2, r3)) :
  Calls Tryd.prog 96 #[.int .i64 a0] w fun e w' => e = .returned (.agg #[.int .i64 r1, .int .i64 r2, .string r3]) ∧ Below w.heap.size w w' := by
 have hu103 := Tryd.underlying103
 have HB := Aside0.mk (Below.refl w.heap.size w)
 have H : (some (1, a0, (⟨#[]⟩ : ByteArray))) = some (r1, r2, r3) := h
 clear h
 simp only [Option.some.injEq, Prod.mk.injEq] at H
 obtain ⟨rfl, rfl, rfl⟩ := H
 go_enter Tryd.func96, Tryd.ntmps96
 go_wp2_with (first | ((with_reducible refine gd 2 rfl ?_); refine bxx 2 #[.int .i64 0, .int .i64 0, .string (⟨#[]⟩ : ByteArray)] 103 ?_; intro gb759 w2 BK759 GW759 HB; obtain ⟨_, _, _, _, _, _⟩ := cells3 BK759.out))
 refine bodyPost_ret (results_cell_row rfl _ _ gb759 103 #[.int .i64 1, .int .i64 a0, .string (⟨#[]⟩ : ByteArray)] (0, 0) _ rfl qP Tryd.underlying103 rfl (by kernel_rfl)) rfl ?_
 exact ⟨qR, qB⟩
end Go.Proofs.YtbngfhlciebeeaaDoor.L
end
