/- Printed and hand-written steps towards the row (TreeEnds), those that it reaches. -/
import Derived.Test.YtbngfhlciebeeaaDoorTreeEndsG5
import Derived.Test.YtbngfhlciebeeaaDoorTreeEndsG6
import Derived.Test.YtbngfhlciebeeaaDoorTreeEndsG17
import Derived.Test.YtbngfhlciebeeaaDoorTreeEndsLxf77
section
namespace Go.Proofs.YtbngfhlciebeeaaDoor.L
open Go.RowKit Go.Proofs.YtbngfhlciebeeaaDoorW.PrintWords Go.Proofs.YtbngfhlciebeeaaDoorW.PrintLast Go.Proofs.YtbngfhlciebeeaaDoorW.PrintMore
attribute [local go_sem] max2_int min2_int max_two min_two max_three min_three max_four min_four   -- for this text's walks alone
set_option linter.unusedVariables false
set_option linter.unusedSimpArgs false
def tree_Branch_ahead.l0 : Nat → Int → List (S45) → List (S45) → Int → Int → Option ((List (S45)))
 | 0, _, _, _, _, _ => none
 | k + 1, x1, x5, x9, x10, x11 => if x11 < x10 then (if 0 ≤ x11 then (if x11 < (x9.length : Int) then (if ((rd_T45 x9 x11).f0) < x1 then (if x5.length < 3518437208883 then (tree_Branch_ahead.l0 k x1 (x5 ++ [(⟨(rd_T45 x9 x11).f0, (rd_T45 x9 x11).f1, (rd_T45 x9 x11).f2, (rd_T45 x9 x11).f3⟩ : S45)]) x9 x10 (wrap64 (x11 + 1))) else (none)) else (tree_Branch_ahead.l0 k x1 x5 x9 x10 (wrap64 (x11 + 1)))) else (none)) else (none)) else (some x5)
def tree_Branch_ahead.f (k : Nat) (a0_0 : Int) (a0_1 : Int) (a0_2 : Int) (l0_3 : List (S45)) (a1 : Int) : Option ((List (S45))) := tree_Branch_ahead.l0 k a1 ([] : List (S45)) l0_3 (l0_3.length : Int) 0
set_option maxHeartbeats 8000000 in
set_option maxRecDepth 100000 in
theorem tree_Branch_ahead.calls (k : Nat) (a0_0 : Int) (a0_1 : Int) (a0_2 : Int) (A0_3 : Option Addr) (c0_3 : Nat) (l0_3 : List (S45)) (a1 : Int) (r : List (S45)) (w : World) (hr0_3 : Kd.C k45 w A0_3 l0_3.length l0_3) (hc0_3 : l0_3.length ≤ c0_3) (h : tree_Branch_ahead.f k a0_0 a0_1 a0_2 l0_3 a1 = some r) :
  Calls Tryd.prog 81 #[.agg #[.int .i64 a0_0, .int .i64 a0_1, .int .i64 a0_2, .slice A0_3 l0_3.length c0_3], .int .i64 a1] w fun e w' => ∃ v0_ : Value, e = .returned (v0_) ∧ Kd.R k45 45 w' w.heap.size (fun _ => True) v0_ r ∧ Below w.heap.size w w' := by
 have hu43 := Tryd.underlying43
 have hu45 := Tryd.underlying45
 have HR0_3 := Aside0.mk hr0_3
 have HC0_3 := Aside0.mk hc0_3
 clear hr0_3 hc0_3
 have HB := Aside0.mk (Below.refl w.heap.size w)
 have H : (tree_Branch_ahead.l0 k a1 ([] : List (S45)) l0_3 (l0_3.length : Int) 0) = some r := h
 clear h
 have H' := Aside0.mk H
 clear H
 go_enter Tryd.func81, Tryd.ntmps81
 go_wp2_with (first | ((with_reducible refine gd 2 rfl ?_); refine bx 2 #[.int .i64 a0_0, .int .i64 a0_1, .int .i64 a0_2, .slice A0_3 l0_3.length c0_3] 43 ?_; intro gb334 hg w3 hbox hb; have BK334 := Aside0.mk (hbox); have GW334 := geS hg; have GE334 := geS hg; replace HB := bst hb; clear hb hbox hg; obtain ⟨hcz4_0, hcz4_1, hcz4_2, hcz4_3, hfz4_0, hfz4_1, hfz4_2, hfz4_3⟩ := cells4 BK334.out))
 go_loopg [5, 11] k (fun kq v5 v11 w' => ∃ (x5_1 : List (S45)) (x11_1 : Int), v11 = .int .i64 x11_1 ∧ Aside0 (tree_Branch_ahead.l0 kq a1 x5_1 l0_3 (l0_3.length : Int) x11_1 = some r) ∧ Aside0 (kq ≤ k) ∧ Aside0 (Kd.R k45 45 w' w.heap.size (fun _ => True) v5 x5_1) ∧ Aside0 (w'.heap[gb334]? = some (.cells #[.int .i64 a0_0, .int .i64 a0_1, .int .i64 a0_2, (.slice A0_3 l0_3.length c0_3)] 43 (0, 0))) ∧ Aside0 (Below w.heap.size w w'))
 case atStart => exact ⟨(([] : List (S45))), (0), (by first | rfl | (simp; done) | (simp [*]; done)), H', ⟨Nat.le_refl _⟩, ⟨by first | exact Kd.R_nil _ _ _ _ _ | exact Kd.N_nil _ _ _ _ _ | exact Kd.V_nil _ _ _ _ _ | exact Kd.Q_nil _ _ _ _ _ | exact Kd.S_nil _ _ _ _ _⟩, ⟨qK⟩, ⟨qB⟩⟩
 case round =>
  clear H'
  try clear p2
  try clear hcz4_0 hcz4_1 hcz4_2 hcz4_3 hfz4_0 hfz4_1 hfz4_2 hfz4_3
  obtain ⟨x5_1, x11_1, rfl, HA, HK1, HO_5, BK334, HB⟩ := hrel
  cases gk with
  | zero => exact absurd HA.out (by simp [tree_Branch_ahead.l0])
  | succ k1 =>
   have H := HA.out
   clear HA
   simp only [tree_Branch_ahead.l0] at H
   replace H := iD H
   rcases H with ⟨c5b0, H⟩ | ⟨c5b0, H⟩
   ·by_cases c6 : 0 ≤ x11_1
    ·rw [if_pos c6] at H
     have c6b0 := decide_eq_true c6
     clear c6
     replace H := iD H
     rcases H with ⟨c7b0, H⟩ | ⟨c7b0, H⟩
     ·by_cases c8 : ((rd_T45 l0_3 x11_1).f0) < a1
      ·rw [if_pos c8] at H
       have c8b0 := decide_eq_true c8
       clear c8
       by_cases c9 : x5_1.length < 3518437208883
       ·rw [if_pos c9] at H
        have LMc9 := Aside0.mk c9
        clear c9
        obtain ⟨y337, hy337⟩ : ∃ y_ : List (S45), y_ = (x5_1 ++ [(⟨(rd_T45 l0_3 x11_1).f0, (rd_T45 l0_3 x11_1).f1, (rd_T45 l0_3 x11_1).f2, (rd_T45 l0_3 x11_1).f3⟩ : S45)]) := ⟨_, rfl⟩
        replace H : (tree_Branch_ahead.l0 k1 a1 y337 l0_3 (l0_3.length : Int) (wrap64 (x11_1 + 1))) = some r := by first | (rw [hy337]; with_reducible exact H) | (have H2_ := (Option.bind_some _ _).symm.trans H; rw [hy337]; with_reducible exact H2_) | (have H2_ := (Option.bind_some _ _).symm.trans H; with_reducible exact H2_) | with_reducible exact H | (rw [hy337]; exact H) | exact H
        have Ny337 := Aside0.mk hy337
        clear hy337
        have H' := Aside0.mk H
        clear H
        have p335 : 0 ≤ (x11_1 : Int) := qD
        have q335 : x11_1 < (l0_3.length : Int) := qD
        obtain ⟨ad335, e335, hx335_0, hx335_1, hx335_2, hx335_3⟩ := at_T45 (Kd.C_below HR0_3.out HB.out) x11_1 p335 q335
        cases e335
        replace p335 := eq_true p335
        replace q335 := eq_true q335
        go_wp2_with (first | ((with_reducible refine gd 7 rfl ?_); refine bx 7 #[.int .i64 0, .int .i64 0, .string (⟨#[]⟩ : ByteArray), .int .i64 0] 45 ?_; intro gb336 hg w10 hbox hb; have n0_ := Aside0.mk (Kd.R_below (Kd.R_elderB (by (with_reducible repeat (first | apply Kd.R_alloc | apply Kd.R_drewN | apply Kd.R_drew)); exact HO_5.out) gb336 (Nat.le_of_eq hg.symm)) hb); have n1_ := kb gb334 hb; have n2_ := bst hb; have n3_ := Aside0.mk (hbox); have n4_ := geS hg; have n5_ := geS hg; have n6_ := neS gb334 hg; have n7_ := neT gb334 hg; clear HO_5; clear BK334; clear HB; have HO_5 := n0_; have BK334 := n1_; have HB := n2_; have BK336 := n3_; have GW336 := n4_; have GE336 := n5_; have NB334_336 := n6_; have NB336_334 := n7_; clear n0_ n1_ n2_ n3_ n4_ n5_ n6_ n7_; clear hb hbox hg; have hnb11 := NB336_334.out; have hnc11 := NB334_336.out; obtain ⟨hcz12_0, hcz12_1, hcz12_2, hcz12_3, hfz12_0, hfz12_1, hfz12_2, hfz12_3⟩ := cells4 BK336.out) | ((with_reducible refine gate_builtin (b := .append) (xs := #[.tmp 19, .tmp 21]) rfl ?_); at_builtin; refine Kd.R_append k45 (w0 := w) w.heap.size rfl (.tmp 19) (.tmp 21) 41 45 (.agg #[(.int .i64 0), (.int .i64 0), (.string ⟨#[]⟩), (.int .i64 0)]) 40 rfl Tryd.underlying41 info45 rfl (by decide) (by omega) u5 x5_1 (⟨(rd_T45 l0_3 x11_1).f0, (rd_T45 l0_3 x11_1).f1, (rd_T45 l0_3 x11_1).f2, (rd_T45 l0_3 x11_1).f3⟩ : S45) [.int .i64 ((rd_T45 l0_3 x11_1).f0), .int .i64 ((rd_T45 l0_3 x11_1).f1), .string ((rd_T45 l0_3 x11_1).f2), .int .i64 ((rd_T45 l0_3 x11_1).f3)] (fun k_ => k_ ≠ gb336) (fun _ => False) rfl (by first | (go_simp; done) | (go_simp; rfl)) ?aP (fun _ hk => hk.elim) ?aF ?aO ?aB ?aS ?aL ?_; (case aP => exact k45_mkM _ _ _ (⟨(rd_T45 l0_3 x11_1).f0, (rd_T45 l0_3 x11_1).f1, (rd_T45 l0_3 x11_1).f2, (rd_T45 l0_3 x11_1).f3⟩ : S45)); (case aB => exact qB); (case aF => exact (fun k_ hk => Kd.freshB (g := gb336) (o := .cells #[.int .i64 ((rd_T45 l0_3 x11_1).f0), .int .i64 ((rd_T45 l0_3 x11_1).f1), .string ((rd_T45 l0_3 x11_1).f2), .int .i64 ((rd_T45 l0_3 x11_1).f3)] 45 (0, 0)) qP k_ hk)); (case aO => exact (by (with_reducible repeat (first | apply Kd.R_alloc | apply Kd.R_drewN | apply Kd.R_drew)); exact Kd.R_mono (Kd.R_far (p := ⟨gb336, 3, none⟩) (Kd.R_far (p := ⟨gb336, 2, none⟩) (Kd.R_far (p := ⟨gb336, 1, none⟩) (Kd.R_far (p := ⟨gb336, 0, none⟩) (Kd.R_mono HO_5.out (fun k_ hk => (⟨hk, hk.2⟩ : _ ∧ k_ ≠ gb336))) (fun _ hk => hk.2) (.int .i64 ((rd_T45 l0_3 x11_1).f0))) (fun _ hk => hk.2) (.int .i64 ((rd_T45 l0_3 x11_1).f1))) (fun _ hk => hk.2) (.string ((rd_T45 l0_3 x11_1).f2))) (fun _ hk => hk.2) (.int .i64 ((rd_T45 l0_3 x11_1).f3))) (fun _ hk => hk.1.2))); (case aS => exact (below_size qB)); (case aL => have := LMc9.out; omega); intro v338 w13 ho hb hg hat; rw [← Ny337.out] at ho; have n0_ := Aside0.mk (blk_grown (g := gb334) (o := .cells #[.int .i64 a0_0, .int .i64 a0_1, .int .i64 a0_2, .slice (some ad335) l0_3.length c0_3] 43 (0, 0)) qK hg (Kd.R_ne HO_5.out BK334.out (by decide))); have n1_ := Aside0.mk (blk_grown (g := gb336) (o := .cells #[.int .i64 ((rd_T45 l0_3 x11_1).f0), .int .i64 ((rd_T45 l0_3 x11_1).f1), .string ((rd_T45 l0_3 x11_1).f2), .int .i64 ((rd_T45 l0_3 x11_1).f3)] 45 (0, 0)) qP hg (Kd.R_away HO_5.out (fun _ hk => hk.2))); have n2_ := Aside0.mk (hb); have n3_ := Aside0.mk (ho); clear BK334; clear BK336; clear HB; clear HO_5; have BK334 := n0_; have BK336 := n1_; have HB := n2_; have HO339 := n3_; clear n0_ n1_ n2_ n3_; clear ho hb hg hat))
        go_roundg k1
        case measure => have := HK1.out; omega
        case rel => exact ⟨(y337), (wrap64 (x11_1 + 1)), (by first | rfl | (simp; done) | (simp [*]; done)), H', ⟨by have := HK1.out; omega⟩, ⟨by (with_reducible repeat (first | apply Kd.R_alloc | apply Kd.R_drewN | apply Kd.R_drew)); exact Kd.R_mono HO339.out (fun _ hk => trivial)⟩, ⟨qK⟩, ⟨qB⟩⟩
       ·rw [if_neg c9] at H
        exact absurd H (by simp)
      ·rw [if_neg c8] at H
       have c8b0 := decide_eq_false c8
       clear c8
       have H' := Aside0.mk H
       clear H
       have p335 : 0 ≤ (x11_1 : Int) := qD
       have q335 : x11_1 < (l0_3.length : Int) := qD
       obtain ⟨ad335, e335, hx335_0, hx335_1, hx335_2, hx335_3⟩ := at_T45 (Kd.C_below HR0_3.out HB.out) x11_1 p335 q335
       cases e335
       replace p335 := eq_true p335
       replace q335 := eq_true q335
       go_wp2_with (first | ((with_reducible refine gd 7 rfl ?_); refine bx 7 #[.int .i64 0, .int .i64 0, .string (⟨#[]⟩ : ByteArray), .int .i64 0] 45 ?_; intro gb336 hg w14 hbox hb; have n0_ := Aside0.mk (Kd.R_below (Kd.R_elderB (by (with_reducible repeat (first | apply Kd.R_alloc | apply Kd.R_drewN | apply Kd.R_drew)); exact HO_5.out) gb336 (Nat.le_of_eq hg.symm)) hb); have n1_ := kb gb334 hb; have n2_ := bst hb; have n3_ := Aside0.mk (hbox); have n4_ := geS hg; have n5_ := geS hg; have n6_ := neS gb334 hg; have n7_ := neT gb334 hg; clear HO_5; clear BK334; clear HB; have HO_5 := n0_; have BK334 := n1_; have HB := n2_; have BK336 := n3_; have GW336 := n4_; have GE336 := n5_; have NB334_336 := n6_; have NB336_334 := n7_; clear n0_ n1_ n2_ n3_ n4_ n5_ n6_ n7_; clear hb hbox hg; have hnb15 := NB336_334.out; have hnc15 := NB334_336.out; obtain ⟨hcz16_0, hcz16_1, hcz16_2, hcz16_3, hfz16_0, hfz16_1, hfz16_2, hfz16_3⟩ := cells4 BK336.out))
       go_roundg k1
       case measure => have := HK1.out; omega
       case rel => exact ⟨(x5_1), (wrap64 (x11_1 + 1)), (by first | rfl | (simp; done) | (simp [*]; done)), H', ⟨by have := HK1.out; omega⟩, ⟨by (with_reducible repeat (first | apply Kd.R_alloc | apply Kd.R_drewN | apply Kd.R_drew)); exact Kd.R_mono (Kd.R_far (p := ⟨gb336, 3, none⟩) (Kd.R_far (p := ⟨gb336, 2, none⟩) (Kd.R_far (p := ⟨gb336, 1, none⟩) (Kd.R_far (p := ⟨gb336, 0, none⟩) (Kd.R_mono HO_5.out (fun k_ hk => (⟨hk, hk.2⟩ : _ ∧ k_ ≠ gb336))) (fun _ hk => hk.2) (.int .i64 ((rd_T45 l0_3 x11_1).f0))) (fun _ hk => hk.2) (.int .i64 ((rd_T45 l0_3 x11_1).f1))) (fun _ hk => hk.2) (.string ((rd_T45 l0_3 x11_1).f2))) (fun _ hk => hk.2) (.int .i64 ((rd_T45 l0_3 x11_1).f3))) (fun _ hk => trivial)⟩, ⟨qK⟩, ⟨qB⟩⟩
     ·exact absurd H (by simp)
    ·rw [if_neg c6] at H
     exact absurd H (by simp)
   ·obtain rfl := Option.some.inj H
    go_wp2
    go_ret
    exact ⟨_, qR, by (with_reducible repeat (first | apply Kd.R_alloc | apply Kd.R_drewN | apply Kd.R_drew)); exact HO_5.out, qB⟩
end Go.Proofs.YtbngfhlciebeeaaDoor.L
end
section
namespace Go.Proofs.YtbngfhlciebeeaaDoor.Sp
set_option linter.unusedVariables false
set_option linter.unusedSimpArgs false
open Go.RowKit Go.Proofs.YtbngfhlciebeeaaDoor.L Go.Proofs.YtbngfhlciebeeaaDoorW.PrintWords
theorem rd45 {l : List S45} {j : Nat} (h : j < l.length) : rd_T45 l (j : Int) = l[j] := by
  unfold rd_T45
  rw [Int.toNat_natCast, List.getD_eq_getElem?_getD, List.getElem?_eq_getElem h]; rfl
theorem rd43 {l : List S43} {j : Nat} (h : j < l.length) : rd_T43 l (j : Int) = l[j] := by
  unfold rd_T43
  rw [Int.toNat_natCast, List.getD_eq_getElem?_getD, List.getElem?_eq_getElem h]; rfl
theorem actEvent_ev (s : ByteArray) (hs : s.size ≤ 1000000) : Ev (fun k => act_Event.f k s) (evOk s) := by
  unfold act_Event.f evOk
  refine Ev.bind (Event_ev s hs) ?_
  cases eventT s with
  | true => exact Ev.pos rfl (Ev.bind_some (tMeans_eq s) (Ev.some (by simp)))
  | false => exact Ev.neg (by decide) (Ev.some rfl)
theorem inputRight_ev (x : S45) (hs : x.f2.size ≤ 1000000) : Ev (fun k => tree_Input_Right.f k x.f0 x.f1 x.f2 x.f3) (rightI x) := by
  unfold tree_Input_Right.f rightI
  by_cases h1 : x.f1 = 1
  · refine Ev.pos h1 (Ev.bind (actEvent_ev _ hs) ?_)
    rw [if_pos h1]
    cases evOk x.f2 with
    | true => exact Ev.pos rfl (Ev.some (by simp))
    | false => exact Ev.neg (by decide) (Ev.some rfl)
  · refine Ev.neg h1 ?_
    rw [if_neg h1]
    by_cases h2 : x.f1 = 2
    · refine Ev.pos h2 ?_
      rw [if_pos h2]
      by_cases h3 : x.f2.data.toList = []
      · refine Ev.pos (by rw [ByteArray.toList_eq]; exact h3) ?_
        rw [decide_eq_true h3, Bool.true_and]
        by_cases h4 : x.f3 ≥ 1
        · refine Ev.pos h4 (Ev.some ?_)
          rw [decide_eq_true (show 1 ≤ x.f3 from h4), Bool.true_and]
        · refine Ev.neg h4 (Ev.some ?_)
          rw [decide_eq_false (show ¬ 1 ≤ x.f3 from h4), Bool.false_and]
      · refine Ev.neg (by rw [ByteArray.toList_eq]; exact h3) (Ev.some ?_)
        rw [decide_eq_false h3, Bool.false_and]
    · refine Ev.neg h2 (Ev.some ?_)
      rw [if_neg h2]
def lastAt (xs : List S45) (j : Nat) : Int := if j = 0 then -1 else (rd_T45 xs ((j : Int) - 1)).f0
theorem rising_l (xs : List S45) (hn : xs.length ≤ 1000000) (hs : ∀ x ∈ xs, x.f2.size ≤ 1000000) (a b len : Int) (d : Nat) : ∀ j, j ≤ xs.length → xs.length - j = d → -1 ≤ lastAt xs j →
    Ev (fun k => tree_Branch_rising.l0 k xs (xs.length : Int) (j : Int) a b len xs) (rising len (lastAt xs j) (xs.drop j)) := by
  induction d with
  | zero =>
    intro j hj hd hl
    refine Ev.succ ?_
    simp only [tree_Branch_rising.l0]
    refine Ev.neg (by omega) (Ev.some ?_)
    rw [List.drop_eq_nil_of_le (by omega)]; rfl
  | succ d ih =>
    intro j hj hd hl
    have hjl : j < xs.length := by omega
    have hlast : lastAt xs (j + 1) = xs[j].f0 := by
      unfold lastAt
      rw [if_neg (by omega), show (((j + 1 : Nat) : Int) - 1) = (j : Int) from by omega, rd45 hjl]
    rw [List.drop_eq_getElem_cons hjl]
    simp only [rising]
    refine Ev.succ ?_
    simp only [tree_Branch_rising.l0]
    rw [rd45 hjl, wrap_at (x := (j : Int) - 1) (by omega) (by omega), wrap_at (x := (j : Int) + 1) (by omega) (by omega)]
    refine Ev.pos (by omega) (Ev.pos (by omega) (Ev.pos (by omega) (Ev.bind (inputRight_ev xs[j] (hs _ (List.getElem_mem hjl))) ?_)))
    cases hr : rightI xs[j] with
    | false => exact Ev.neg (by decide) (Ev.some rfl)
    | true =>
      refine Ev.pos rfl ?_
      rw [Bool.true_and]
      by_cases h1 : xs[j].f0 < 0
      · refine Ev.pos h1 (Ev.some ?_)
        rw [decide_eq_false (by omega), Bool.false_and]
      · refine Ev.neg h1 ?_
        by_cases h2 : xs[j].f0 ≥ len
        · refine Ev.pos h2 (Ev.some ?_)
          rw [decide_eq_false (show ¬ xs[j].f0 < len by omega), Bool.false_and, Bool.and_false]
        · refine Ev.neg h2 ?_
          rw [decide_eq_true (show xs[j].f0 < len by omega), Bool.true_and]
          have hnext := ih (j + 1) (by omega) (by omega) (by rw [hlast]; omega)
          rw [hlast] at hnext
          by_cases h3 : 0 < j
          · have hl2 : lastAt xs j = (rd_T45 xs ((j : Int) - 1)).f0 := by unfold lastAt; rw [if_neg (by omega)]
            refine Ev.pos (by omega) (Ev.pos (by omega) (Ev.pos (by omega) ?_))
            rw [← hl2]
            by_cases h4 : xs[j].f0 ≤ lastAt xs j
            · refine Ev.pos h4 (Ev.some ?_)
              rw [decide_eq_false (by omega), Bool.false_and]
            · refine Ev.neg h4 ?_
              rw [decide_eq_true (by omega), Bool.true_and]
              exact hnext
          · refine Ev.neg (by omega) ?_
            have hl2 : lastAt xs j = -1 := by unfold lastAt; rw [if_pos (by omega)]
            rw [hl2, decide_eq_true (by omega), Bool.true_and]
            exact hnext
theorem rising_ev (xs : List S45) (hn : xs.length ≤ 1000000) (hs : ∀ x ∈ xs, x.f2.size ≤ 1000000) (a b len : Int) : Ev (fun k => tree_Branch_rising.f k a b len xs) (rising len (-1) xs) := by
  unfold tree_Branch_rising.f
  exact rising_l xs hn hs a b len _ 0 (by omega) rfl (by unfold lastAt; simp)
def goodB (len : Int) (xs : List S45) : Bool := decide (0 ≤ len) && (decide (len ≤ 512) && rising len (-1) xs)
theorem ahead_l (at_ : Int) (xs : List S45) (hn : xs.length ≤ 1000000) (d : Nat) : ∀ (j : Nat) (out : List S45), j ≤ xs.length → xs.length - j = d → out.length ≤ j →
    Ev (fun k => tree_Branch_ahead.l0 k at_ out xs (xs.length : Int) (j : Int)) (out ++ ahead at_ (xs.drop j)) := by
  induction d with
  | zero =>
    intro j out hj hd ho
    refine Ev.succ ?_
    simp only [tree_Branch_ahead.l0]
    refine Ev.neg (by omega) (Ev.some ?_)
    rw [List.drop_eq_nil_of_le (by omega)]
    simp [ahead]
  | succ d ih =>
    intro j out hj hd ho
    have hjl : j < xs.length := by omega
    rw [List.drop_eq_getElem_cons hjl]
    refine Ev.succ ?_
    simp only [tree_Branch_ahead.l0]
    rw [rd45 hjl, wrap_at (by omega) (by omega)]
    refine Ev.pos (by omega) (Ev.pos (by omega) (Ev.pos (by omega) ?_))
    by_cases h : xs[j].f0 < at_
    · refine Ev.pos h (Ev.pos (by omega) ?_)
      have h2 := ih (j + 1) (out ++ [xs[j]]) (by omega) (by omega) (by simp; omega)
      have e : ahead at_ (xs[j] :: xs.drop (j + 1)) = xs[j] :: ahead at_ (xs.drop (j + 1)) := by
        unfold ahead
        rw [List.filter_cons_of_pos (by simpa using h)]
      rw [e, show out ++ xs[j] :: ahead at_ (xs.drop (j + 1)) = (out ++ [xs[j]]) ++ ahead at_ (xs.drop (j + 1)) from by simp]
      exact h2
    · refine Ev.neg h ?_
      have h2 := ih (j + 1) out (by omega) (by omega) (by omega)
      have e : ahead at_ (xs[j] :: xs.drop (j + 1)) = ahead at_ (xs.drop (j + 1)) := by
        unfold ahead
        rw [List.filter_cons_of_neg (by simpa using h)]
      rw [e]
      exact h2
theorem ahead_ev (a b c at_ : Int) (xs : List S45) (hn : xs.length ≤ 1000000) : Ev (fun k => tree_Branch_ahead.f k a b c xs at_) (ahead at_ xs) := by
  unfold tree_Branch_ahead.f
  exact ahead_l at_ xs hn _ 0 [] (by omega) rfl (by simp)
end Go.Proofs.YtbngfhlciebeeaaDoor.Sp
end
section
namespace Go.Proofs.YtbngfhlciebeeaaDoor.L
open Go.RowKit Go.Proofs.YtbngfhlciebeeaaDoorW.PrintWords Go.Proofs.YtbngfhlciebeeaaDoorW.PrintLast Go.Proofs.YtbngfhlciebeeaaDoorW.PrintMore
attribute [local go_sem] max2_int min2_int max_two min_two max_three min_three max_four min_four   -- for this text's walks alone
set_option linter.unusedVariables false
set_option linter.unusedSimpArgs false
def tree_Tree_has.f (l0 : List (S43)) (a1 : Int) : Option (Bool) := if a1 ≥ 0 then (some (decide (a1 < (l0.length : Int)))) else (some false)
set_option maxHeartbeats 8000000 in
set_option maxRecDepth 100000 in
theorem tree_Tree_has.calls (A0 : Option Addr) (c0 : Nat) (l0 : List (S43)) (a1 : Int) (r : Bool) (w : World) (hr0 : Kd.C k43 w A0 l0.length l0) (hc0 : l0.length ≤ c0) (h : tree_Tree_has.f l0 a1 = some r) :
  Calls Tryd.prog 80 #[.slice A0 l0.length c0, .int .i64 a1] w fun e w' => e = .returned (.bool r) ∧ Drawn0 w w' := by
 have HR0 := Aside0.mk hr0
 have HC0 := Aside0.mk hc0
 clear hr0 hc0
 have H : (if a1 ≥ 0 then (some (decide (a1 < (l0.length : Int)))) else (some false)) = some r := h
 clear h
 replace H := iD H
 rcases H with ⟨c3b0, H⟩ | ⟨c3b0, H⟩
 ·obtain rfl := Option.some.inj H
  go_enter Tryd.func80, Tryd.ntmps80
  go_wp2
  go_ret
  exact ⟨by first | rfl | (simp; done) | (simp [*]; done), by repeat (first | exact Drawn0.refl _ | apply Drawn0.step)⟩
 ·obtain rfl := Option.some.inj H
  go_enter Tryd.func80, Tryd.ntmps80
  go_wp2
  go_ret
  exact ⟨by first | rfl | (simp; done) | (simp [*]; done), by repeat (first | exact Drawn0.refl _ | apply Drawn0.step)⟩
end Go.Proofs.YtbngfhlciebeeaaDoor.L
end
