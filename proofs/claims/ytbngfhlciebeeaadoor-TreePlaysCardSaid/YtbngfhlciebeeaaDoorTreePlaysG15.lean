/- Printed and hand-written steps towards the row (TreePlays), those that it reaches. -/
import Derived.Test.YtbngfhlciebeeaaDoorTreePlaysG4
import Derived.Test.YtbngfhlciebeeaaDoorTreePlaysG5
import Derived.Test.YtbngfhlciebeeaaDoorTreePlaysG14
import Derived.Test.YtbngfhlciebeeaaDoorTreePlaysG13
section
namespace Go.Proofs.YtbngfhlciebeeaaDoor.L
open Go.RowKit Go.Proofs.YtbngfhlciebeeaaDoorW.PrintWords Go.Proofs.YtbngfhlciebeeaaDoorW.PrintLast Go.Proofs.YtbngfhlciebeeaaDoorW.PrintMore
attribute [local go_sem] max2_int min2_int max_two min_two max_three min_three max_four min_four   -- for this text's walks alone
set_option linter.unusedVariables false
set_option linter.unusedSimpArgs false
def tree_Branch_rising.l0 : Nat → List (S45) → Int → Int → Int → Int → Int → List (S45) → Option (Bool)
 | 0, _, _, _, _, _, _, _ => none
 | k + 1, x6, x7, x8, x330000, x330001, x330002, x330003 => if x8 < x7 then (if 0 ≤ x8 then (if x8 < (x6.length : Int) then ((tree_Input_Right.f k ((rd_T45 x6 x8).f0) ((rd_T45 x6 x8).f1) ((rd_T45 x6 x8).f2) ((rd_T45 x6 x8).f3)).bind fun t332 => (if t332 = true then (if ((rd_T45 x6 x8).f0) < 0 then (some false) else (if ((rd_T45 x6 x8).f0) ≥ x330002 then (some false) else (if x8 > 0 then (if 0 ≤ (wrap64 (x8 - 1)) then (if (wrap64 (x8 - 1)) < (x330003.length : Int) then (if ((rd_T45 x6 x8).f0) ≤ ((rd_T45 x330003 (wrap64 (x8 - 1))).f0) then (some false) else (tree_Branch_rising.l0 k x6 x7 (wrap64 (x8 + 1)) x330000 x330001 x330002 x330003)) else (none)) else (none)) else (tree_Branch_rising.l0 k x6 x7 (wrap64 (x8 + 1)) x330000 x330001 x330002 x330003)))) else (some false))) else (none)) else (none)) else (some true)
def tree_Branch_rising.f (k : Nat) (a0_0 : Int) (a0_1 : Int) (a0_2 : Int) (l0_3 : List (S45)) : Option (Bool) := tree_Branch_rising.l0 k l0_3 (l0_3.length : Int) 0 a0_0 a0_1 a0_2 l0_3
def tree_Branch_rising.T4 : Bool × List (List Nat × List Nat) := (true, [([], []), ([0], [0]), ([1], [1]), ([2, 1], [2]), ([3], [3]), ([4, 3], [3, 4]), ([5, 3], [3, 5]), ([3, 6], [3, 6]), ([7, 3], [7]), ([8], [8]), ([9, 8], [8, 9]), ([8], [8]), ([11, 8], [8, 11]), ([10, 12, 8], [8, 10, 12]), ([8, 13], [8, 13]), ([14, 8], [14]), ([15], [15]), ([16, 15], [15, 16]), ([17, 15, 15], [15, 17]), ([18], [18]), ([19, 18], [18, 19]), ([18], [18]), ([21, 18], [18, 21]), ([18], [18]), ([23, 18], [18, 23]), ([22, 24, 18], [18, 22, 24]), ([25, 18], [18, 25]), ([26, 18], [18, 26]), ([20, 27, 18], [18, 20, 27]), ([18, 28, 15], [15, 18, 28]), ([15, 29], [15, 29])])
def tree_Branch_rising.B4 : List Nat := [0, 1, 3, 7, 15, 31, 63, 127, 255, 511, 1023, 511, 2559, 8191, 16383, 32767, 65535, 131071, 262143, 524287, 1048575, 524287, 2621439, 524287, 8912895, 31981567, 65535999, 132644863, 268435455, 536870911, 1073741823]
theorem tree_Branch_rising.tab4 : rtab .any (opsOf Tryd.f77 4) = tree_Branch_rising.T4 := by kernel_rfl
theorem tree_Branch_rising.bits4 : waitsOk tree_Branch_rising.T4.2 tree_Branch_rising.B4 = true := by kernel_rfl
set_option maxHeartbeats 8000000 in
set_option maxRecDepth 100000 in
theorem tree_Branch_rising.calls (k : Nat) (a0_0 : Int) (a0_1 : Int) (a0_2 : Int) (A0_3 : Option Addr) (c0_3 : Nat) (l0_3 : List (S45)) (r : Bool) (w : World) (hr0_3 : Kd.C k45 w A0_3 l0_3.length l0_3) (hc0_3 : l0_3.length ≤ c0_3) (hL : Laid w) (h : tree_Branch_rising.f k a0_0 a0_1 a0_2 l0_3 = some r) :
  Calls Tryd.prog 77 #[.agg #[.int .i64 a0_0, .int .i64 a0_1, .int .i64 a0_2, .slice A0_3 l0_3.length c0_3]] w fun e w' => e = .returned (.bool r) ∧ Below w.heap.size w w' := by
 have hu43 := Tryd.underlying43
 have hu45 := Tryd.underlying45
 have HR0_3 := Aside0.mk hr0_3
 have HC0_3 := Aside0.mk hc0_3
 clear hr0_3 hc0_3
 have HB := Aside0.mk (Below.refl w.heap.size w)
 have HLD := Aside0.mk hL
 clear hL
 have H : (tree_Branch_rising.l0 k l0_3 (l0_3.length : Int) 0 a0_0 a0_1 a0_2 l0_3) = some r := h
 clear h
 have H' := Aside0.mk H
 clear H
 go_enter Tryd.func77, Tryd.ntmps77
 go_wp2_with (first | ((with_reducible refine gd 1 rfl ?_); refine bxx 1 #[.int .i64 a0_0, .int .i64 a0_1, .int .i64 a0_2, .slice A0_3 l0_3.length c0_3] 43 ?_; intro gb329 w2 BK329 GW329 HB; obtain ⟨_, _, _, _, _, _, _, _⟩ := cells4 BK329.out))
 go_loopg [8] k (fun kq v8 w' => ∃ (x8_1 : Int), v8 = .int .i64 x8_1 ∧ Aside0 (tree_Branch_rising.l0 kq l0_3 (l0_3.length : Int) x8_1 a0_0 a0_1 a0_2 l0_3 = some r) ∧ Aside0 (kq ≤ k) ∧ Aside0 (w'.heap[gb329]? = some (.cells #[.int .i64 a0_0, .int .i64 a0_1, .int .i64 a0_2, (.slice A0_3 l0_3.length c0_3)] 43 (0, 0))) ∧ Aside0 (Below w.heap.size w w'))
 case atStart => exact ⟨(0), qE, H', ⟨Nat.le_refl _⟩, ⟨qK⟩, ⟨qB⟩⟩
 case round =>
  clear H'
  try clear p2
  obtain ⟨x8_1, rfl, HA, HK1, BK329, HB⟩ := hrel
  cases gk with
  | zero => exact absurd HA.out (by simp [tree_Branch_rising.l0])
  | succ k1 =>
   have H := HA.out
   clear HA
   simp only [tree_Branch_rising.l0] at H
   replace H := iD H
   rcases H with ⟨c4b0, H⟩ | ⟨c4b0, H⟩
   ·by_cases c5 : 0 ≤ x8_1
    ·rw [if_pos c5] at H; have c5b0 := decide_eq_true c5; clear c5; replace H := iD H
     rcases H with ⟨c6b0, H⟩ | ⟨c6b0, H⟩
     ·replace H := Option.bind_eq_some_iff.mp H; obtain ⟨t332, A70, H⟩ := H; (try dsimp -simprocs only at H); have A7 := Aside0.mk A70; clear A70
      by_cases c8 : t332 = true
      ·subst c8; rw [if_pos rfl] at H; replace H := iD H
       rcases H with ⟨c9b0, H⟩ | ⟨c9b0, H⟩
       ·obtain rfl := Option.some.inj H; have p330 : 0 ≤ (x8_1 : Int) := qD; have q330 : x8_1 < (l0_3.length : Int) := qD; obtain ⟨ad330, e330, hx330_0, hx330_1, hx330_2, hx330_3⟩ := at_T45 (Kd.C_below HR0_3.out HB.out) x8_1 p330 q330; cases e330; replace p330 := eq_true p330; replace q330 := eq_true q330
        try go_wp2_with (first | ((with_reducible refine gd 4 rfl ?_); refine bx 4 #[.int .i64 0, .int .i64 0, .string (⟨#[]⟩ : ByteArray), .int .i64 0] 45 ?_; intro gb331 hg w10 hbox hb; have BK331 := Aside0.mk (hbox); have GW331 := geS hg; have GE331 := geS hg; have NB329_331 := neS gb329 hg; have NB331_329 := neT gb329 hg; replace BK329 := kb gb329 hb; replace HB := bst hb; clear hb hbox hg; have := NB331_329.out; have := NB329_331.out; obtain ⟨_, _, _, _, _, _, _, _⟩ := cells4 BK331.out))
        have n0_ : Aside0 (((((w10.setCell ⟨gb331, 0, none⟩ (.int .i64 ((rd_T45 l0_3 x8_1).f0))).setCell ⟨gb331, 1, none⟩ (.int .i64 ((rd_T45 l0_3 x8_1).f1))).setCell ⟨gb331, 2, none⟩ (.string ((rd_T45 l0_3 x8_1).f2))).setCell ⟨gb331, 3, none⟩ (.int .i64 ((rd_T45 l0_3 x8_1).f3))).heap[gb329]? = some (.cells #[.int .i64 a0_0, .int .i64 a0_1, .int .i64 a0_2, .slice (some ad330) l0_3.length c0_3] 43 (0, 0))) := ⟨qK⟩; have n1_ : Aside0 (((((w10.setCell ⟨gb331, 0, none⟩ (.int .i64 ((rd_T45 l0_3 x8_1).f0))).setCell ⟨gb331, 1, none⟩ (.int .i64 ((rd_T45 l0_3 x8_1).f1))).setCell ⟨gb331, 2, none⟩ (.string ((rd_T45 l0_3 x8_1).f2))).setCell ⟨gb331, 3, none⟩ (.int .i64 ((rd_T45 l0_3 x8_1).f3))).heap[gb331]? = some (.cells #[.int .i64 ((rd_T45 l0_3 x8_1).f0), .int .i64 ((rd_T45 l0_3 x8_1).f1), .string ((rd_T45 l0_3 x8_1).f2), .int .i64 ((rd_T45 l0_3 x8_1).f3)] 45 (0, 0))) := ⟨qP⟩; have n2_ : Aside0 (Below w.heap.size w ((((w10.setCell ⟨gb331, 0, none⟩ (.int .i64 ((rd_T45 l0_3 x8_1).f0))).setCell ⟨gb331, 1, none⟩ (.int .i64 ((rd_T45 l0_3 x8_1).f1))).setCell ⟨gb331, 2, none⟩ (.string ((rd_T45 l0_3 x8_1).f2))).setCell ⟨gb331, 3, none⟩ (.int .i64 ((rd_T45 l0_3 x8_1).f3)))) := ⟨qB⟩; (try clear BK329); (try clear BK331); (try clear HB)
        generalize ((((w10.setCell ⟨gb331, 0, none⟩ (.int .i64 ((rd_T45 l0_3 x8_1).f0))).setCell ⟨gb331, 1, none⟩ (.int .i64 ((rd_T45 l0_3 x8_1).f1))).setCell ⟨gb331, 2, none⟩ (.string ((rd_T45 l0_3 x8_1).f2))).setCell ⟨gb331, 3, none⟩ (.int .i64 ((rd_T45 l0_3 x8_1).f3))) = w13 at n0_ n1_ n2_ ⊢
        have BK329 := n0_; have BK331 := n1_; have HB := n2_; clear n0_ n1_ n2_; replace BK329 := Aside0.mk (blk_drew BK329.out); replace BK331 := Aside0.mk (blk_drew BK331.out); replace HB := Aside0.mk (below_drew1 HB.out); refine start_ (n := 31) (S := fun w' => w'.cell? ⟨gb331, 0, none⟩ = some (.int .i64 ((rd_T45 l0_3 x8_1).f0)) ∧ w'.cell? ⟨gb331, 1, none⟩ = some (.int .i64 ((rd_T45 l0_3 x8_1).f1)) ∧ w'.cell? ⟨gb331, 2, none⟩ = some (.string ((rd_T45 l0_3 x8_1).f2)) ∧ w'.cell? ⟨gb331, 3, none⟩ = some (.int .i64 ((rd_T45 l0_3 x8_1).f3))) (ds := []) _ (by kernel_rfl) rfl (fls 31) ⟨(blk_cell BK331.out 0).trans rfl, (blk_cell BK331.out 1).trans rfl, (blk_cell BK331.out 2).trans rfl, (blk_cell BK331.out 3).trans rfl⟩ (fun hHeld => ?_); refine with_tabW tree_Branch_rising.tab4 tree_Branch_rising.bits4 (fun HT_ HW_ => ?_)
        generalize w13.drew = w14 at BK329 BK331 HB hHeld ⊢
        refine tk 0 13 ?_; refine onx 1 14 (fun K hK => ?_); refine goes_ Tryd.func33 (by kernel_rfl) rfl #[.agg #[.int .i64 ((rd_T45 l0_3 x8_1).f0), .int .i64 ((rd_T45 l0_3 x8_1).f1), .string ((rd_T45 l0_3 x8_1).f2), .int .i64 ((rd_T45 l0_3 x8_1).f3)]] (by rfl) rfl rfl (by (try simp only [List.map_toArray, List.map_cons, List.map_nil]); first | done | rfl | (simp only [List.length_drop, List.length_take]; rfl)) ?_
        with_reducible refine (tree_Input_Right.calls k1 ((rd_T45 l0_3 x8_1).f0) ((rd_T45 l0_3 x8_1).f1) ((rd_T45 l0_3 x8_1).f2) ((rd_T45 l0_3 x8_1).f3) true _ ?side1 A7.out).mono ?_
        (case side1 => exact Laid.below HLD.out qB); rintro e w15 ⟨rfl, hb⟩; refine ⟨_, rfl, ?_⟩; replace BK329 := kb gb329 hb; replace BK331 := kb gb331 hb; replace HB := bst hb; (try clear hb); (try clear hb2); (try clear hk); (try clear hi); refine hK.out _ _ ⟨(blk_cell BK331.out 0).trans rfl, (blk_cell BK331.out 1).trans rfl, (blk_cell BK331.out 2).trans rfl, (blk_cell BK331.out 3).trans rfl⟩ (fun hHeld => ?_); clear hK K; refine nm 14 ?_; refine pu 2 15 ?_; refine pu 3 16 ?_; refine pu 4 17 ?_; refine tk 5 18 ?_; refine pu 6 19 ?_; refine pu 7 20 ?_; refine pu 8 21 ?_; refine po 9 22 ?_; refine po 10 23 ?_; refine po 11 24 ?_; refine po 12 25 ?_; refine po 13 26 ?_; refine pu 14 27 ?_; refine pu 15 28 ?_; refine po 16 29 ?_; refine po 17 30 ?_; refine po 18 31 ?_; refine po 19 32 ?_; refine po 20 33 ?_; refine po 21 34 ?_; refine po 22 35 ?_; refine po 23 36 ?_; refine po 24 37 ?_; refine po 25 38 ?_; refine po 26 39 ?_; refine po 27 40 ?_; refine po 28 41 ?_; refine po 29 42 ?_; refine pu 30 43 ?_; refine done_ (done_of HT_.out (by kernel_rfl)) ?_
        try go_wp2
        go_ret; exact ⟨qR, qB⟩
       by_cases c16 : ((rd_T45 l0_3 x8_1).f0) ≥ a0_2
       ·rw [if_pos c16] at H; have c16b0 := decide_eq_true c16; clear c16; obtain rfl := Option.some.inj H; have p330 : 0 ≤ (x8_1 : Int) := qD; have q330 : x8_1 < (l0_3.length : Int) := qD; obtain ⟨ad330, e330, hx330_0, hx330_1, hx330_2, hx330_3⟩ := at_T45 (Kd.C_below HR0_3.out HB.out) x8_1 p330 q330; cases e330; replace p330 := eq_true p330; replace q330 := eq_true q330
        try go_wp2_with (first | ((with_reducible refine gd 4 rfl ?_); refine bx 4 #[.int .i64 0, .int .i64 0, .string (⟨#[]⟩ : ByteArray), .int .i64 0] 45 ?_; intro gb331 hg w17 hbox hb; have BK331 := Aside0.mk (hbox); have GW331 := geS hg; have GE331 := geS hg; have NB329_331 := neS gb329 hg; have NB331_329 := neT gb329 hg; replace BK329 := kb gb329 hb; replace HB := bst hb; clear hb hbox hg; have := NB331_329.out; have := NB329_331.out; obtain ⟨_, _, _, _, _, _, _, _⟩ := cells4 BK331.out))
        have n0_ : Aside0 (((((w17.setCell ⟨gb331, 0, none⟩ (.int .i64 ((rd_T45 l0_3 x8_1).f0))).setCell ⟨gb331, 1, none⟩ (.int .i64 ((rd_T45 l0_3 x8_1).f1))).setCell ⟨gb331, 2, none⟩ (.string ((rd_T45 l0_3 x8_1).f2))).setCell ⟨gb331, 3, none⟩ (.int .i64 ((rd_T45 l0_3 x8_1).f3))).heap[gb329]? = some (.cells #[.int .i64 a0_0, .int .i64 a0_1, .int .i64 a0_2, .slice (some ad330) l0_3.length c0_3] 43 (0, 0))) := ⟨qK⟩; have n1_ : Aside0 (((((w17.setCell ⟨gb331, 0, none⟩ (.int .i64 ((rd_T45 l0_3 x8_1).f0))).setCell ⟨gb331, 1, none⟩ (.int .i64 ((rd_T45 l0_3 x8_1).f1))).setCell ⟨gb331, 2, none⟩ (.string ((rd_T45 l0_3 x8_1).f2))).setCell ⟨gb331, 3, none⟩ (.int .i64 ((rd_T45 l0_3 x8_1).f3))).heap[gb331]? = some (.cells #[.int .i64 ((rd_T45 l0_3 x8_1).f0), .int .i64 ((rd_T45 l0_3 x8_1).f1), .string ((rd_T45 l0_3 x8_1).f2), .int .i64 ((rd_T45 l0_3 x8_1).f3)] 45 (0, 0))) := ⟨qP⟩; have n2_ : Aside0 (Below w.heap.size w ((((w17.setCell ⟨gb331, 0, none⟩ (.int .i64 ((rd_T45 l0_3 x8_1).f0))).setCell ⟨gb331, 1, none⟩ (.int .i64 ((rd_T45 l0_3 x8_1).f1))).setCell ⟨gb331, 2, none⟩ (.string ((rd_T45 l0_3 x8_1).f2))).setCell ⟨gb331, 3, none⟩ (.int .i64 ((rd_T45 l0_3 x8_1).f3)))) := ⟨qB⟩; (try clear BK329); (try clear BK331); (try clear HB)
        generalize ((((w17.setCell ⟨gb331, 0, none⟩ (.int .i64 ((rd_T45 l0_3 x8_1).f0))).setCell ⟨gb331, 1, none⟩ (.int .i64 ((rd_T45 l0_3 x8_1).f1))).setCell ⟨gb331, 2, none⟩ (.string ((rd_T45 l0_3 x8_1).f2))).setCell ⟨gb331, 3, none⟩ (.int .i64 ((rd_T45 l0_3 x8_1).f3))) = w20 at n0_ n1_ n2_ ⊢
        have BK329 := n0_; have BK331 := n1_; have HB := n2_; clear n0_ n1_ n2_; replace BK329 := Aside0.mk (blk_drew BK329.out); replace BK331 := Aside0.mk (blk_drew BK331.out); replace HB := Aside0.mk (below_drew1 HB.out); refine start_ (n := 31) (S := fun w' => w'.cell? ⟨gb331, 0, none⟩ = some (.int .i64 ((rd_T45 l0_3 x8_1).f0)) ∧ w'.cell? ⟨gb331, 1, none⟩ = some (.int .i64 ((rd_T45 l0_3 x8_1).f1)) ∧ w'.cell? ⟨gb331, 2, none⟩ = some (.string ((rd_T45 l0_3 x8_1).f2)) ∧ w'.cell? ⟨gb331, 3, none⟩ = some (.int .i64 ((rd_T45 l0_3 x8_1).f3)) ∧ w'.cell? ⟨gb329, 0, none⟩ = some (.int .i64 a0_0) ∧ w'.cell? ⟨gb329, 1, none⟩ = some (.int .i64 a0_1) ∧ w'.cell? ⟨gb329, 2, none⟩ = some (.int .i64 a0_2) ∧ w'.cell? ⟨gb329, 3, none⟩ = some (.slice (some ad330) l0_3.length c0_3)) (ds := []) _ (by kernel_rfl) rfl (fls 31) ⟨(blk_cell BK331.out 0).trans rfl, (blk_cell BK331.out 1).trans rfl, (blk_cell BK331.out 2).trans rfl, (blk_cell BK331.out 3).trans rfl, (blk_cell BK329.out 0).trans rfl, (blk_cell BK329.out 1).trans rfl, (blk_cell BK329.out 2).trans rfl, (blk_cell BK329.out 3).trans rfl⟩ (fun hHeld => ?_); refine with_tabW tree_Branch_rising.tab4 tree_Branch_rising.bits4 (fun HT_ HW_ => ?_)
        generalize w20.drew = w21 at BK329 BK331 HB hHeld ⊢
        refine tk 0 13 ?_; refine onx 1 14 (fun K hK => ?_); refine goes_ Tryd.func33 (by kernel_rfl) rfl #[.agg #[.int .i64 ((rd_T45 l0_3 x8_1).f0), .int .i64 ((rd_T45 l0_3 x8_1).f1), .string ((rd_T45 l0_3 x8_1).f2), .int .i64 ((rd_T45 l0_3 x8_1).f3)]] (by rfl) rfl rfl (by (try simp only [List.map_toArray, List.map_cons, List.map_nil]); first | done | rfl | (simp only [List.length_drop, List.length_take]; rfl)) ?_
        with_reducible refine (tree_Input_Right.calls k1 ((rd_T45 l0_3 x8_1).f0) ((rd_T45 l0_3 x8_1).f1) ((rd_T45 l0_3 x8_1).f2) ((rd_T45 l0_3 x8_1).f3) true _ ?side1 A7.out).mono ?_
        (case side1 => exact Laid.below HLD.out qB); rintro e w22 ⟨rfl, hb⟩; refine ⟨_, rfl, ?_⟩; replace BK329 := kb gb329 hb; replace BK331 := kb gb331 hb; replace HB := bst hb; (try clear hb); (try clear hb2); (try clear hk); (try clear hi); refine hK.out _ _ ⟨(blk_cell BK331.out 0).trans rfl, (blk_cell BK331.out 1).trans rfl, (blk_cell BK331.out 2).trans rfl, (blk_cell BK331.out 3).trans rfl, (blk_cell BK329.out 0).trans rfl, (blk_cell BK329.out 1).trans rfl, (blk_cell BK329.out 2).trans rfl, (blk_cell BK329.out 3).trans rfl⟩ (fun hHeld => ?_); clear hK K; refine nm 14 ?_; refine pu 2 15 ?_; refine pu 3 16 ?_; refine pu 4 17 ?_; refine tk 5 18 ?_; refine pu 6 19 ?_; refine pu 7 20 ?_; refine pu 8 21 ?_; refine pu 9 22 ?_; refine pu 11 24 ?_; refine tk 10 23 ?_; refine tk 12 25 ?_; refine pu 13 26 ?_; refine pu 14 27 ?_; refine pu 15 28 ?_; refine po 16 29 ?_; refine po 17 30 ?_; refine po 18 31 ?_; refine po 19 32 ?_; refine po 20 33 ?_; refine po 21 34 ?_; refine po 22 35 ?_; refine po 23 36 ?_; refine po 24 37 ?_; refine po 25 38 ?_; refine po 26 39 ?_; refine po 27 40 ?_; refine po 28 41 ?_; refine po 29 42 ?_; refine pu 30 43 ?_; refine done_ (done_of HT_.out (by kernel_rfl)) ?_
        try go_wp2
        go_ret; exact ⟨qR, qB⟩
       rw [if_neg c16] at H; have c16b0 := decide_eq_false c16; clear c16; replace H := iD H
       rcases H with ⟨c23b0, H⟩ | ⟨c23b0, H⟩
       ·obtain ⟨ji24, hji24⟩ : ∃ j_ : Int, (wrap64 (x8_1 - 1)) = j_ := ⟨_, rfl⟩; replace H : (if 0 ≤ (ji24) then (if (ji24) < (l0_3.length : Int) then (if ((rd_T45 l0_3 x8_1).f0) ≤ ((rd_T45 l0_3 (ji24)).f0) then (some false) else (tree_Branch_rising.l0 k1 l0_3 (l0_3.length : Int) (wrap64 (x8_1 + 1)) a0_0 a0_1 a0_2 l0_3)) else (none)) else (none)) = some r := by first | (rw [hji24] at H; exact H) | (simp only [hji24] at H ⊢; exact H)
        (try rw [hji24] at A7); have hji24w : (IntKind.i64.wrap (x8_1 - 1)) = ji24 := (i64_w _).trans hji24; replace H := iD H
        rcases H with ⟨c25b0, H⟩ | ⟨c25b0, H⟩
        ·by_cases c26 : (ji24) < (l0_3.length : Int)
         ·rw [if_pos c26] at H; have c26b0 := decide_eq_true c26; clear c26; replace H := iD H
          rcases H with ⟨c27b0, H⟩ | ⟨c27b0, H⟩
          ·obtain rfl := Option.some.inj H; have p330 : 0 ≤ (x8_1 : Int) := qD; have q330 : x8_1 < (l0_3.length : Int) := qD; obtain ⟨ad330, e330, hx330_0, hx330_1, hx330_2, hx330_3⟩ := at_T45 (Kd.C_below HR0_3.out HB.out) x8_1 p330 q330; cases e330; replace p330 := eq_true p330; replace q330 := eq_true q330
           try go_wp2_with (first | ((with_reducible refine gd 4 rfl ?_); refine bx 4 #[.int .i64 0, .int .i64 0, .string (⟨#[]⟩ : ByteArray), .int .i64 0] 45 ?_; intro gb331 hg w28 hbox hb; have BK331 := Aside0.mk (hbox); have GW331 := geS hg; have GE331 := geS hg; have NB329_331 := neS gb329 hg; have NB331_329 := neT gb329 hg; replace BK329 := kb gb329 hb; replace HB := bst hb; clear hb hbox hg; have := NB331_329.out; have := NB329_331.out; obtain ⟨_, _, _, _, _, _, _, _⟩ := cells4 BK331.out))
           have n0_ : Aside0 (((((w28.setCell ⟨gb331, 0, none⟩ (.int .i64 ((rd_T45 l0_3 x8_1).f0))).setCell ⟨gb331, 1, none⟩ (.int .i64 ((rd_T45 l0_3 x8_1).f1))).setCell ⟨gb331, 2, none⟩ (.string ((rd_T45 l0_3 x8_1).f2))).setCell ⟨gb331, 3, none⟩ (.int .i64 ((rd_T45 l0_3 x8_1).f3))).heap[gb329]? = some (.cells #[.int .i64 a0_0, .int .i64 a0_1, .int .i64 a0_2, .slice (some ad330) l0_3.length c0_3] 43 (0, 0))) := ⟨qK⟩; have n1_ : Aside0 (((((w28.setCell ⟨gb331, 0, none⟩ (.int .i64 ((rd_T45 l0_3 x8_1).f0))).setCell ⟨gb331, 1, none⟩ (.int .i64 ((rd_T45 l0_3 x8_1).f1))).setCell ⟨gb331, 2, none⟩ (.string ((rd_T45 l0_3 x8_1).f2))).setCell ⟨gb331, 3, none⟩ (.int .i64 ((rd_T45 l0_3 x8_1).f3))).heap[gb331]? = some (.cells #[.int .i64 ((rd_T45 l0_3 x8_1).f0), .int .i64 ((rd_T45 l0_3 x8_1).f1), .string ((rd_T45 l0_3 x8_1).f2), .int .i64 ((rd_T45 l0_3 x8_1).f3)] 45 (0, 0))) := ⟨qP⟩; have n2_ : Aside0 (Below w.heap.size w ((((w28.setCell ⟨gb331, 0, none⟩ (.int .i64 ((rd_T45 l0_3 x8_1).f0))).setCell ⟨gb331, 1, none⟩ (.int .i64 ((rd_T45 l0_3 x8_1).f1))).setCell ⟨gb331, 2, none⟩ (.string ((rd_T45 l0_3 x8_1).f2))).setCell ⟨gb331, 3, none⟩ (.int .i64 ((rd_T45 l0_3 x8_1).f3)))) := ⟨qB⟩; (try clear BK329); (try clear BK331); (try clear HB)
           generalize ((((w28.setCell ⟨gb331, 0, none⟩ (.int .i64 ((rd_T45 l0_3 x8_1).f0))).setCell ⟨gb331, 1, none⟩ (.int .i64 ((rd_T45 l0_3 x8_1).f1))).setCell ⟨gb331, 2, none⟩ (.string ((rd_T45 l0_3 x8_1).f2))).setCell ⟨gb331, 3, none⟩ (.int .i64 ((rd_T45 l0_3 x8_1).f3))) = w31 at n0_ n1_ n2_ ⊢
           have BK329 := n0_; have BK331 := n1_; have HB := n2_; clear n0_ n1_ n2_; replace BK329 := Aside0.mk (blk_drew BK329.out); replace BK331 := Aside0.mk (blk_drew BK331.out); replace HB := Aside0.mk (below_drew1 HB.out); have p333 : 0 ≤ ((ji24) : Int) := qD; have q333 : (ji24) < (l0_3.length : Int) := qD; obtain ⟨ad333, e333, hx333_0, hx333_1, hx333_2, hx333_3⟩ := at_T45 HR0_3.out (ji24) p333 q333; have hw333_3 := hx333_3; have hw333_2 := hx333_2; have hw333_1 := hx333_1; have hw333_0 := hx333_0; obtain rfl : ad330 = ad333 := (by injection e333); replace hx333_0 := pw_cell_below HB.out hx333_0; replace hx333_1 := pw_cell_below HB.out hx333_1; replace hx333_2 := pw_cell_below HB.out hx333_2; replace hx333_3 := pw_cell_below HB.out hx333_3; replace p333 := eq_true p333; replace q333 := eq_true q333
           refine start_ (n := 31) (S := fun w' => w'.cell? ⟨gb331, 0, none⟩ = some (.int .i64 ((rd_T45 l0_3 x8_1).f0)) ∧ w'.cell? ⟨gb331, 1, none⟩ = some (.int .i64 ((rd_T45 l0_3 x8_1).f1)) ∧ w'.cell? ⟨gb331, 2, none⟩ = some (.string ((rd_T45 l0_3 x8_1).f2)) ∧ w'.cell? ⟨gb331, 3, none⟩ = some (.int .i64 ((rd_T45 l0_3 x8_1).f3)) ∧ w'.cell? ⟨gb329, 0, none⟩ = some (.int .i64 a0_0) ∧ w'.cell? ⟨gb329, 1, none⟩ = some (.int .i64 a0_1) ∧ w'.cell? ⟨gb329, 2, none⟩ = some (.int .i64 a0_2) ∧ w'.cell? ⟨gb329, 3, none⟩ = some (.slice (some ad330) l0_3.length c0_3) ∧ w'.cell? (ad330.add (((ji24)).toNat * 4)) = some (.int .i64 ((rd_T45 l0_3 (ji24)).f0)) ∧ w'.cell? ⟨(ad330.add (((ji24)).toNat * 4)).block, (ad330.add (((ji24)).toNat * 4)).off + 1, none⟩ = some (.int .i64 ((rd_T45 l0_3 (ji24)).f1)) ∧ w'.cell? ⟨(ad330.add (((ji24)).toNat * 4)).block, (ad330.add (((ji24)).toNat * 4)).off + 2, none⟩ = some (.string ((rd_T45 l0_3 (ji24)).f2)) ∧ w'.cell? ⟨(ad330.add (((ji24)).toNat * 4)).block, (ad330.add (((ji24)).toNat * 4)).off + 3, none⟩ = some (.int .i64 ((rd_T45 l0_3 (ji24)).f3))) (ds := []) _ (by kernel_rfl) rfl (fls 31) ⟨(blk_cell BK331.out 0).trans rfl, (blk_cell BK331.out 1).trans rfl, (blk_cell BK331.out 2).trans rfl, (blk_cell BK331.out 3).trans rfl, (blk_cell BK329.out 0).trans rfl, (blk_cell BK329.out 1).trans rfl, (blk_cell BK329.out 2).trans rfl, (blk_cell BK329.out 3).trans rfl, ((HB.out.cell (World.block_lt_of_cell? w _ hw333_0)).trans hw333_0), ((HB.out.cell (World.block_lt_of_cell? w _ hw333_1)).trans hw333_1), ((HB.out.cell (World.block_lt_of_cell? w _ hw333_2)).trans hw333_2), ((HB.out.cell (World.block_lt_of_cell? w _ hw333_3)).trans hw333_3)⟩ (fun hHeld => ?_); refine with_tabW tree_Branch_rising.tab4 tree_Branch_rising.bits4 (fun HT_ HW_ => ?_)
           generalize w31.drew = w32 at BK329 BK331 HB hx333_0 hx333_1 hx333_2 hx333_3 hHeld ⊢
           refine tk 0 13 ?_; refine onx 1 14 (fun K hK => ?_); refine goes_ Tryd.func33 (by kernel_rfl) rfl #[.agg #[.int .i64 ((rd_T45 l0_3 x8_1).f0), .int .i64 ((rd_T45 l0_3 x8_1).f1), .string ((rd_T45 l0_3 x8_1).f2), .int .i64 ((rd_T45 l0_3 x8_1).f3)]] (by rfl) rfl rfl (by (try simp only [List.map_toArray, List.map_cons, List.map_nil]); first | done | rfl | (simp only [List.length_drop, List.length_take]; rfl)) ?_
           with_reducible refine (tree_Input_Right.calls k1 ((rd_T45 l0_3 x8_1).f0) ((rd_T45 l0_3 x8_1).f1) ((rd_T45 l0_3 x8_1).f2) ((rd_T45 l0_3 x8_1).f3) true _ ?side1 A7.out).mono ?_
           (case side1 => exact Laid.below HLD.out qB); rintro e w33 ⟨rfl, hb⟩; refine ⟨_, rfl, ?_⟩; replace BK329 := kb gb329 hb; replace BK331 := kb gb331 hb; replace HB := bst hb; (try clear hb); (try clear hb2); (try clear hk); (try clear hi); refine hK.out _ _ ⟨(blk_cell BK331.out 0).trans rfl, (blk_cell BK331.out 1).trans rfl, (blk_cell BK331.out 2).trans rfl, (blk_cell BK331.out 3).trans rfl, (blk_cell BK329.out 0).trans rfl, (blk_cell BK329.out 1).trans rfl, (blk_cell BK329.out 2).trans rfl, (blk_cell BK329.out 3).trans rfl, ((HB.out.cell (World.block_lt_of_cell? w _ hw333_0)).trans hw333_0), ((HB.out.cell (World.block_lt_of_cell? w _ hw333_1)).trans hw333_1), ((HB.out.cell (World.block_lt_of_cell? w _ hw333_2)).trans hw333_2), ((HB.out.cell (World.block_lt_of_cell? w _ hw333_3)).trans hw333_3)⟩ (fun hHeld => ?_); clear hK K; refine nm 14 ?_; refine pu 2 15 ?_; refine pu 3 16 ?_; refine pu 4 17 ?_; refine tk 5 18 ?_; refine pu 6 19 ?_; refine pu 7 20 ?_; refine pu 8 21 ?_; refine pu 9 22 ?_; refine pu 11 24 ?_; refine tk 10 23 ?_; refine tk 12 25 ?_; refine pu 13 26 ?_; refine pu 14 27 ?_; refine pu 15 28 ?_; refine pu 16 29 ?_; refine pu 17 30 ?_; refine pu 18 31 ?_; refine pu 19 32 ?_; refine pu 21 34 ?_; refine pu 23 36 ?_; refine pu 24 37 ?_; refine tk 20 33 ?_; refine tk 22 35 ?_; refine pu 25 38 ?_; refine pu 26 39 ?_; refine tk 27 40 ?_; refine pu 28 41 ?_; refine pu 29 42 ?_; refine pu 30 43 ?_; refine done_ (done_of HT_.out (by kernel_rfl)) ?_
           try go_wp2
           go_ret; exact ⟨by first | rfl | (simp [errW_none, errW_some] <;> rfl) | (simp only [← hji24]; first | rfl | (simp [errW_none, errW_some] <;> rfl)) | (simp [*, errW_none, errW_some] <;> rfl), qB⟩
          have H' := Aside0.mk H; clear H; have p330 : 0 ≤ (x8_1 : Int) := qD; have q330 : x8_1 < (l0_3.length : Int) := qD; obtain ⟨ad330, e330, hx330_0, hx330_1, hx330_2, hx330_3⟩ := at_T45 (Kd.C_below HR0_3.out HB.out) x8_1 p330 q330; cases e330; replace p330 := eq_true p330; replace q330 := eq_true q330
          try go_wp2_with (first | ((with_reducible refine gd 4 rfl ?_); refine bx 4 #[.int .i64 0, .int .i64 0, .string (⟨#[]⟩ : ByteArray), .int .i64 0] 45 ?_; intro gb331 hg w34 hbox hb; have BK331 := Aside0.mk (hbox); have GW331 := geS hg; have GE331 := geS hg; have NB329_331 := neS gb329 hg; have NB331_329 := neT gb329 hg; replace BK329 := kb gb329 hb; replace HB := bst hb; clear hb hbox hg; have := NB331_329.out; have := NB329_331.out; obtain ⟨_, _, _, _, _, _, _, _⟩ := cells4 BK331.out))
          have n0_ : Aside0 (((((w34.setCell ⟨gb331, 0, none⟩ (.int .i64 ((rd_T45 l0_3 x8_1).f0))).setCell ⟨gb331, 1, none⟩ (.int .i64 ((rd_T45 l0_3 x8_1).f1))).setCell ⟨gb331, 2, none⟩ (.string ((rd_T45 l0_3 x8_1).f2))).setCell ⟨gb331, 3, none⟩ (.int .i64 ((rd_T45 l0_3 x8_1).f3))).heap[gb329]? = some (.cells #[.int .i64 a0_0, .int .i64 a0_1, .int .i64 a0_2, .slice (some ad330) l0_3.length c0_3] 43 (0, 0))) := ⟨qK⟩; have n1_ : Aside0 (((((w34.setCell ⟨gb331, 0, none⟩ (.int .i64 ((rd_T45 l0_3 x8_1).f0))).setCell ⟨gb331, 1, none⟩ (.int .i64 ((rd_T45 l0_3 x8_1).f1))).setCell ⟨gb331, 2, none⟩ (.string ((rd_T45 l0_3 x8_1).f2))).setCell ⟨gb331, 3, none⟩ (.int .i64 ((rd_T45 l0_3 x8_1).f3))).heap[gb331]? = some (.cells #[.int .i64 ((rd_T45 l0_3 x8_1).f0), .int .i64 ((rd_T45 l0_3 x8_1).f1), .string ((rd_T45 l0_3 x8_1).f2), .int .i64 ((rd_T45 l0_3 x8_1).f3)] 45 (0, 0))) := ⟨qP⟩; have n2_ : Aside0 (Below w.heap.size w ((((w34.setCell ⟨gb331, 0, none⟩ (.int .i64 ((rd_T45 l0_3 x8_1).f0))).setCell ⟨gb331, 1, none⟩ (.int .i64 ((rd_T45 l0_3 x8_1).f1))).setCell ⟨gb331, 2, none⟩ (.string ((rd_T45 l0_3 x8_1).f2))).setCell ⟨gb331, 3, none⟩ (.int .i64 ((rd_T45 l0_3 x8_1).f3)))) := ⟨qB⟩; (try clear BK329); (try clear BK331); (try clear HB)
          generalize ((((w34.setCell ⟨gb331, 0, none⟩ (.int .i64 ((rd_T45 l0_3 x8_1).f0))).setCell ⟨gb331, 1, none⟩ (.int .i64 ((rd_T45 l0_3 x8_1).f1))).setCell ⟨gb331, 2, none⟩ (.string ((rd_T45 l0_3 x8_1).f2))).setCell ⟨gb331, 3, none⟩ (.int .i64 ((rd_T45 l0_3 x8_1).f3))) = w37 at n0_ n1_ n2_ ⊢
          have BK329 := n0_; have BK331 := n1_; have HB := n2_; clear n0_ n1_ n2_; replace BK329 := Aside0.mk (blk_drew BK329.out); replace BK331 := Aside0.mk (blk_drew BK331.out); replace HB := Aside0.mk (below_drew1 HB.out); have p333 : 0 ≤ ((ji24) : Int) := qD; have q333 : (ji24) < (l0_3.length : Int) := qD; obtain ⟨ad333, e333, hx333_0, hx333_1, hx333_2, hx333_3⟩ := at_T45 HR0_3.out (ji24) p333 q333; have hw333_3 := hx333_3; have hw333_2 := hx333_2; have hw333_1 := hx333_1; have hw333_0 := hx333_0; obtain rfl : ad330 = ad333 := (by injection e333); replace hx333_0 := pw_cell_below HB.out hx333_0; replace hx333_1 := pw_cell_below HB.out hx333_1; replace hx333_2 := pw_cell_below HB.out hx333_2; replace hx333_3 := pw_cell_below HB.out hx333_3; replace p333 := eq_true p333; replace q333 := eq_true q333
          refine start_ (n := 31) (S := fun w' => w'.cell? ⟨gb331, 0, none⟩ = some (.int .i64 ((rd_T45 l0_3 x8_1).f0)) ∧ w'.cell? ⟨gb331, 1, none⟩ = some (.int .i64 ((rd_T45 l0_3 x8_1).f1)) ∧ w'.cell? ⟨gb331, 2, none⟩ = some (.string ((rd_T45 l0_3 x8_1).f2)) ∧ w'.cell? ⟨gb331, 3, none⟩ = some (.int .i64 ((rd_T45 l0_3 x8_1).f3)) ∧ w'.cell? ⟨gb329, 0, none⟩ = some (.int .i64 a0_0) ∧ w'.cell? ⟨gb329, 1, none⟩ = some (.int .i64 a0_1) ∧ w'.cell? ⟨gb329, 2, none⟩ = some (.int .i64 a0_2) ∧ w'.cell? ⟨gb329, 3, none⟩ = some (.slice (some ad330) l0_3.length c0_3) ∧ w'.cell? (ad330.add (((ji24)).toNat * 4)) = some (.int .i64 ((rd_T45 l0_3 (ji24)).f0)) ∧ w'.cell? ⟨(ad330.add (((ji24)).toNat * 4)).block, (ad330.add (((ji24)).toNat * 4)).off + 1, none⟩ = some (.int .i64 ((rd_T45 l0_3 (ji24)).f1)) ∧ w'.cell? ⟨(ad330.add (((ji24)).toNat * 4)).block, (ad330.add (((ji24)).toNat * 4)).off + 2, none⟩ = some (.string ((rd_T45 l0_3 (ji24)).f2)) ∧ w'.cell? ⟨(ad330.add (((ji24)).toNat * 4)).block, (ad330.add (((ji24)).toNat * 4)).off + 3, none⟩ = some (.int .i64 ((rd_T45 l0_3 (ji24)).f3))) (ds := []) _ (by kernel_rfl) rfl (fls 31) ⟨(blk_cell BK331.out 0).trans rfl, (blk_cell BK331.out 1).trans rfl, (blk_cell BK331.out 2).trans rfl, (blk_cell BK331.out 3).trans rfl, (blk_cell BK329.out 0).trans rfl, (blk_cell BK329.out 1).trans rfl, (blk_cell BK329.out 2).trans rfl, (blk_cell BK329.out 3).trans rfl, ((HB.out.cell (World.block_lt_of_cell? w _ hw333_0)).trans hw333_0), ((HB.out.cell (World.block_lt_of_cell? w _ hw333_1)).trans hw333_1), ((HB.out.cell (World.block_lt_of_cell? w _ hw333_2)).trans hw333_2), ((HB.out.cell (World.block_lt_of_cell? w _ hw333_3)).trans hw333_3)⟩ (fun hHeld => ?_); refine with_tabW tree_Branch_rising.tab4 tree_Branch_rising.bits4 (fun HT_ HW_ => ?_)
          generalize w37.drew = w38 at BK329 BK331 HB hx333_0 hx333_1 hx333_2 hx333_3 hHeld ⊢
          refine tk 0 13 ?_; refine onx 1 14 (fun K hK => ?_); refine goes_ Tryd.func33 (by kernel_rfl) rfl #[.agg #[.int .i64 ((rd_T45 l0_3 x8_1).f0), .int .i64 ((rd_T45 l0_3 x8_1).f1), .string ((rd_T45 l0_3 x8_1).f2), .int .i64 ((rd_T45 l0_3 x8_1).f3)]] (by rfl) rfl rfl (by (try simp only [List.map_toArray, List.map_cons, List.map_nil]); first | done | rfl | (simp only [List.length_drop, List.length_take]; rfl)) ?_
          with_reducible refine (tree_Input_Right.calls k1 ((rd_T45 l0_3 x8_1).f0) ((rd_T45 l0_3 x8_1).f1) ((rd_T45 l0_3 x8_1).f2) ((rd_T45 l0_3 x8_1).f3) true _ ?side1 A7.out).mono ?_
          (case side1 => exact Laid.below HLD.out qB); rintro e w39 ⟨rfl, hb⟩; refine ⟨_, rfl, ?_⟩; replace BK329 := kb gb329 hb; replace BK331 := kb gb331 hb; replace HB := bst hb; (try clear hb); (try clear hb2); (try clear hk); (try clear hi); refine hK.out _ _ ⟨(blk_cell BK331.out 0).trans rfl, (blk_cell BK331.out 1).trans rfl, (blk_cell BK331.out 2).trans rfl, (blk_cell BK331.out 3).trans rfl, (blk_cell BK329.out 0).trans rfl, (blk_cell BK329.out 1).trans rfl, (blk_cell BK329.out 2).trans rfl, (blk_cell BK329.out 3).trans rfl, ((HB.out.cell (World.block_lt_of_cell? w _ hw333_0)).trans hw333_0), ((HB.out.cell (World.block_lt_of_cell? w _ hw333_1)).trans hw333_1), ((HB.out.cell (World.block_lt_of_cell? w _ hw333_2)).trans hw333_2), ((HB.out.cell (World.block_lt_of_cell? w _ hw333_3)).trans hw333_3)⟩ (fun hHeld => ?_); clear hK K; refine nm 14 ?_; refine pu 2 15 ?_; refine pu 3 16 ?_; refine pu 4 17 ?_; refine tk 5 18 ?_; refine pu 6 19 ?_; refine pu 7 20 ?_; refine pu 8 21 ?_; refine pu 9 22 ?_; refine pu 11 24 ?_; refine tk 10 23 ?_; refine tk 12 25 ?_; refine pu 13 26 ?_; refine pu 14 27 ?_; refine pu 15 28 ?_; refine pu 16 29 ?_; refine pu 17 30 ?_; refine pu 18 31 ?_; refine pu 19 32 ?_; refine pu 21 34 ?_; refine pu 23 36 ?_; refine pu 24 37 ?_; refine tk 20 33 ?_; refine tk 22 35 ?_; refine pu 25 38 ?_; refine pu 26 39 ?_; refine tk 27 40 ?_; refine pu 28 41 ?_; refine pu 29 42 ?_; refine pu 30 43 ?_; refine done_ (done_of HT_.out (by kernel_rfl)) ?_
          try go_wp2
          go_roundg k1
          case measure => have := HK1.out; omega
          case rel => exact ⟨(wrap64 (x8_1 + 1)), qE, H', ⟨by have := HK1.out; omega⟩, ⟨qK⟩, ⟨qB⟩⟩
         rw [if_neg c26] at H; exact absurd H (by simp)
        exact absurd H (by simp)
       have H' := Aside0.mk H; clear H; have p330 : 0 ≤ (x8_1 : Int) := qD; have q330 : x8_1 < (l0_3.length : Int) := qD; obtain ⟨ad330, e330, hx330_0, hx330_1, hx330_2, hx330_3⟩ := at_T45 (Kd.C_below HR0_3.out HB.out) x8_1 p330 q330; cases e330; replace p330 := eq_true p330; replace q330 := eq_true q330
       try go_wp2_with (first | ((with_reducible refine gd 4 rfl ?_); refine bx 4 #[.int .i64 0, .int .i64 0, .string (⟨#[]⟩ : ByteArray), .int .i64 0] 45 ?_; intro gb331 hg w40 hbox hb; have BK331 := Aside0.mk (hbox); have GW331 := geS hg; have GE331 := geS hg; have NB329_331 := neS gb329 hg; have NB331_329 := neT gb329 hg; replace BK329 := kb gb329 hb; replace HB := bst hb; clear hb hbox hg; have := NB331_329.out; have := NB329_331.out; obtain ⟨_, _, _, _, _, _, _, _⟩ := cells4 BK331.out))
       have n0_ : Aside0 (((((w40.setCell ⟨gb331, 0, none⟩ (.int .i64 ((rd_T45 l0_3 x8_1).f0))).setCell ⟨gb331, 1, none⟩ (.int .i64 ((rd_T45 l0_3 x8_1).f1))).setCell ⟨gb331, 2, none⟩ (.string ((rd_T45 l0_3 x8_1).f2))).setCell ⟨gb331, 3, none⟩ (.int .i64 ((rd_T45 l0_3 x8_1).f3))).heap[gb329]? = some (.cells #[.int .i64 a0_0, .int .i64 a0_1, .int .i64 a0_2, .slice (some ad330) l0_3.length c0_3] 43 (0, 0))) := ⟨qK⟩; have n1_ : Aside0 (((((w40.setCell ⟨gb331, 0, none⟩ (.int .i64 ((rd_T45 l0_3 x8_1).f0))).setCell ⟨gb331, 1, none⟩ (.int .i64 ((rd_T45 l0_3 x8_1).f1))).setCell ⟨gb331, 2, none⟩ (.string ((rd_T45 l0_3 x8_1).f2))).setCell ⟨gb331, 3, none⟩ (.int .i64 ((rd_T45 l0_3 x8_1).f3))).heap[gb331]? = some (.cells #[.int .i64 ((rd_T45 l0_3 x8_1).f0), .int .i64 ((rd_T45 l0_3 x8_1).f1), .string ((rd_T45 l0_3 x8_1).f2), .int .i64 ((rd_T45 l0_3 x8_1).f3)] 45 (0, 0))) := ⟨qP⟩; have n2_ : Aside0 (Below w.heap.size w ((((w40.setCell ⟨gb331, 0, none⟩ (.int .i64 ((rd_T45 l0_3 x8_1).f0))).setCell ⟨gb331, 1, none⟩ (.int .i64 ((rd_T45 l0_3 x8_1).f1))).setCell ⟨gb331, 2, none⟩ (.string ((rd_T45 l0_3 x8_1).f2))).setCell ⟨gb331, 3, none⟩ (.int .i64 ((rd_T45 l0_3 x8_1).f3)))) := ⟨qB⟩; (try clear BK329); (try clear BK331); (try clear HB)
       generalize ((((w40.setCell ⟨gb331, 0, none⟩ (.int .i64 ((rd_T45 l0_3 x8_1).f0))).setCell ⟨gb331, 1, none⟩ (.int .i64 ((rd_T45 l0_3 x8_1).f1))).setCell ⟨gb331, 2, none⟩ (.string ((rd_T45 l0_3 x8_1).f2))).setCell ⟨gb331, 3, none⟩ (.int .i64 ((rd_T45 l0_3 x8_1).f3))) = w43 at n0_ n1_ n2_ ⊢
       have BK329 := n0_; have BK331 := n1_; have HB := n2_; clear n0_ n1_ n2_; replace BK329 := Aside0.mk (blk_drew BK329.out); replace BK331 := Aside0.mk (blk_drew BK331.out); replace HB := Aside0.mk (below_drew1 HB.out); refine start_ (n := 31) (S := fun w' => w'.cell? ⟨gb331, 0, none⟩ = some (.int .i64 ((rd_T45 l0_3 x8_1).f0)) ∧ w'.cell? ⟨gb331, 1, none⟩ = some (.int .i64 ((rd_T45 l0_3 x8_1).f1)) ∧ w'.cell? ⟨gb331, 2, none⟩ = some (.string ((rd_T45 l0_3 x8_1).f2)) ∧ w'.cell? ⟨gb331, 3, none⟩ = some (.int .i64 ((rd_T45 l0_3 x8_1).f3)) ∧ w'.cell? ⟨gb329, 0, none⟩ = some (.int .i64 a0_0) ∧ w'.cell? ⟨gb329, 1, none⟩ = some (.int .i64 a0_1) ∧ w'.cell? ⟨gb329, 2, none⟩ = some (.int .i64 a0_2) ∧ w'.cell? ⟨gb329, 3, none⟩ = some (.slice (some ad330) l0_3.length c0_3)) (ds := []) _ (by kernel_rfl) rfl (fls 31) ⟨(blk_cell BK331.out 0).trans rfl, (blk_cell BK331.out 1).trans rfl, (blk_cell BK331.out 2).trans rfl, (blk_cell BK331.out 3).trans rfl, (blk_cell BK329.out 0).trans rfl, (blk_cell BK329.out 1).trans rfl, (blk_cell BK329.out 2).trans rfl, (blk_cell BK329.out 3).trans rfl⟩ (fun hHeld => ?_); refine with_tabW tree_Branch_rising.tab4 tree_Branch_rising.bits4 (fun HT_ HW_ => ?_)
       generalize w43.drew = w44 at BK329 BK331 HB hHeld ⊢
       refine tk 0 13 ?_; refine onx 1 14 (fun K hK => ?_); refine goes_ Tryd.func33 (by kernel_rfl) rfl #[.agg #[.int .i64 ((rd_T45 l0_3 x8_1).f0), .int .i64 ((rd_T45 l0_3 x8_1).f1), .string ((rd_T45 l0_3 x8_1).f2), .int .i64 ((rd_T45 l0_3 x8_1).f3)]] (by rfl) rfl rfl (by (try simp only [List.map_toArray, List.map_cons, List.map_nil]); first | done | rfl | (simp only [List.length_drop, List.length_take]; rfl)) ?_
       with_reducible refine (tree_Input_Right.calls k1 ((rd_T45 l0_3 x8_1).f0) ((rd_T45 l0_3 x8_1).f1) ((rd_T45 l0_3 x8_1).f2) ((rd_T45 l0_3 x8_1).f3) true _ ?side1 A7.out).mono ?_
       (case side1 => exact Laid.below HLD.out qB); rintro e w45 ⟨rfl, hb⟩; refine ⟨_, rfl, ?_⟩; replace BK329 := kb gb329 hb; replace BK331 := kb gb331 hb; replace HB := bst hb; (try clear hb); (try clear hb2); (try clear hk); (try clear hi); refine hK.out _ _ ⟨(blk_cell BK331.out 0).trans rfl, (blk_cell BK331.out 1).trans rfl, (blk_cell BK331.out 2).trans rfl, (blk_cell BK331.out 3).trans rfl, (blk_cell BK329.out 0).trans rfl, (blk_cell BK329.out 1).trans rfl, (blk_cell BK329.out 2).trans rfl, (blk_cell BK329.out 3).trans rfl⟩ (fun hHeld => ?_); clear hK K; refine nm 14 ?_; refine pu 2 15 ?_; refine pu 3 16 ?_; refine pu 4 17 ?_; refine tk 5 18 ?_; refine pu 6 19 ?_; refine pu 7 20 ?_; refine pu 8 21 ?_; refine pu 9 22 ?_; refine pu 11 24 ?_; refine tk 10 23 ?_; refine tk 12 25 ?_; refine pu 13 26 ?_; refine pu 14 27 ?_; refine pu 15 28 ?_; refine pu 16 29 ?_; refine pu 17 30 ?_; refine pu 18 31 ?_; refine po 19 32 ?_; refine po 20 33 ?_; refine po 21 34 ?_; refine po 22 35 ?_; refine po 23 36 ?_; refine po 24 37 ?_; refine po 25 38 ?_; refine po 26 39 ?_; refine po 27 40 ?_; refine po 28 41 ?_; refine pu 29 42 ?_; refine pu 30 43 ?_; refine done_ (done_of HT_.out (by kernel_rfl)) ?_
       try go_wp2
       go_roundg k1
       case measure => have := HK1.out; omega
       case rel => exact ⟨(wrap64 (x8_1 + 1)), qE, H', ⟨by have := HK1.out; omega⟩, ⟨qK⟩, ⟨qB⟩⟩
      replace c8 := Bool.eq_false_iff.mpr c8; subst c8; rw [if_neg (show ¬ (false = true) by decide)] at H; obtain rfl := Option.some.inj H; have p330 : 0 ≤ (x8_1 : Int) := qD; have q330 : x8_1 < (l0_3.length : Int) := qD; obtain ⟨ad330, e330, hx330_0, hx330_1, hx330_2, hx330_3⟩ := at_T45 (Kd.C_below HR0_3.out HB.out) x8_1 p330 q330; cases e330; replace p330 := eq_true p330; replace q330 := eq_true q330
      try go_wp2_with (first | ((with_reducible refine gd 4 rfl ?_); refine bx 4 #[.int .i64 0, .int .i64 0, .string (⟨#[]⟩ : ByteArray), .int .i64 0] 45 ?_; intro gb331 hg w46 hbox hb; have BK331 := Aside0.mk (hbox); have GW331 := geS hg; have GE331 := geS hg; have NB329_331 := neS gb329 hg; have NB331_329 := neT gb329 hg; replace BK329 := kb gb329 hb; replace HB := bst hb; clear hb hbox hg; have := NB331_329.out; have := NB329_331.out; obtain ⟨_, _, _, _, _, _, _, _⟩ := cells4 BK331.out))
      have n0_ : Aside0 (((((w46.setCell ⟨gb331, 0, none⟩ (.int .i64 ((rd_T45 l0_3 x8_1).f0))).setCell ⟨gb331, 1, none⟩ (.int .i64 ((rd_T45 l0_3 x8_1).f1))).setCell ⟨gb331, 2, none⟩ (.string ((rd_T45 l0_3 x8_1).f2))).setCell ⟨gb331, 3, none⟩ (.int .i64 ((rd_T45 l0_3 x8_1).f3))).heap[gb329]? = some (.cells #[.int .i64 a0_0, .int .i64 a0_1, .int .i64 a0_2, .slice (some ad330) l0_3.length c0_3] 43 (0, 0))) := ⟨qK⟩; have n1_ : Aside0 (((((w46.setCell ⟨gb331, 0, none⟩ (.int .i64 ((rd_T45 l0_3 x8_1).f0))).setCell ⟨gb331, 1, none⟩ (.int .i64 ((rd_T45 l0_3 x8_1).f1))).setCell ⟨gb331, 2, none⟩ (.string ((rd_T45 l0_3 x8_1).f2))).setCell ⟨gb331, 3, none⟩ (.int .i64 ((rd_T45 l0_3 x8_1).f3))).heap[gb331]? = some (.cells #[.int .i64 ((rd_T45 l0_3 x8_1).f0), .int .i64 ((rd_T45 l0_3 x8_1).f1), .string ((rd_T45 l0_3 x8_1).f2), .int .i64 ((rd_T45 l0_3 x8_1).f3)] 45 (0, 0))) := ⟨qP⟩; have n2_ : Aside0 (Below w.heap.size w ((((w46.setCell ⟨gb331, 0, none⟩ (.int .i64 ((rd_T45 l0_3 x8_1).f0))).setCell ⟨gb331, 1, none⟩ (.int .i64 ((rd_T45 l0_3 x8_1).f1))).setCell ⟨gb331, 2, none⟩ (.string ((rd_T45 l0_3 x8_1).f2))).setCell ⟨gb331, 3, none⟩ (.int .i64 ((rd_T45 l0_3 x8_1).f3)))) := ⟨qB⟩; (try clear BK329); (try clear BK331); (try clear HB)
      generalize ((((w46.setCell ⟨gb331, 0, none⟩ (.int .i64 ((rd_T45 l0_3 x8_1).f0))).setCell ⟨gb331, 1, none⟩ (.int .i64 ((rd_T45 l0_3 x8_1).f1))).setCell ⟨gb331, 2, none⟩ (.string ((rd_T45 l0_3 x8_1).f2))).setCell ⟨gb331, 3, none⟩ (.int .i64 ((rd_T45 l0_3 x8_1).f3))) = w49 at n0_ n1_ n2_ ⊢
      have BK329 := n0_; have BK331 := n1_; have HB := n2_; clear n0_ n1_ n2_; replace BK329 := Aside0.mk (blk_drew BK329.out); replace BK331 := Aside0.mk (blk_drew BK331.out); replace HB := Aside0.mk (below_drew1 HB.out); refine start_ (n := 31) (S := fun w' => w'.cell? ⟨gb331, 0, none⟩ = some (.int .i64 ((rd_T45 l0_3 x8_1).f0)) ∧ w'.cell? ⟨gb331, 1, none⟩ = some (.int .i64 ((rd_T45 l0_3 x8_1).f1)) ∧ w'.cell? ⟨gb331, 2, none⟩ = some (.string ((rd_T45 l0_3 x8_1).f2)) ∧ w'.cell? ⟨gb331, 3, none⟩ = some (.int .i64 ((rd_T45 l0_3 x8_1).f3))) (ds := []) _ (by kernel_rfl) rfl (fls 31) ⟨(blk_cell BK331.out 0).trans rfl, (blk_cell BK331.out 1).trans rfl, (blk_cell BK331.out 2).trans rfl, (blk_cell BK331.out 3).trans rfl⟩ (fun hHeld => ?_); refine with_tabW tree_Branch_rising.tab4 tree_Branch_rising.bits4 (fun HT_ HW_ => ?_)
      generalize w49.drew = w50 at BK329 BK331 HB hHeld ⊢
      refine tk 0 13 ?_; refine onx 1 14 (fun K hK => ?_); refine goes_ Tryd.func33 (by kernel_rfl) rfl #[.agg #[.int .i64 ((rd_T45 l0_3 x8_1).f0), .int .i64 ((rd_T45 l0_3 x8_1).f1), .string ((rd_T45 l0_3 x8_1).f2), .int .i64 ((rd_T45 l0_3 x8_1).f3)]] (by rfl) rfl rfl (by (try simp only [List.map_toArray, List.map_cons, List.map_nil]); first | done | rfl | (simp only [List.length_drop, List.length_take]; rfl)) ?_
      with_reducible refine (tree_Input_Right.calls k1 ((rd_T45 l0_3 x8_1).f0) ((rd_T45 l0_3 x8_1).f1) ((rd_T45 l0_3 x8_1).f2) ((rd_T45 l0_3 x8_1).f3) false _ ?side1 A7.out).mono ?_
      (case side1 => exact Laid.below HLD.out qB); rintro e w51 ⟨rfl, hb⟩; refine ⟨_, rfl, ?_⟩; replace BK329 := kb gb329 hb; replace BK331 := kb gb331 hb; replace HB := bst hb; (try clear hb); (try clear hb2); (try clear hk); (try clear hi); refine hK.out _ _ ⟨(blk_cell BK331.out 0).trans rfl, (blk_cell BK331.out 1).trans rfl, (blk_cell BK331.out 2).trans rfl, (blk_cell BK331.out 3).trans rfl⟩ (fun hHeld => ?_); clear hK K; refine nm 14 ?_; refine pu 2 15 ?_; refine pu 3 16 ?_; refine po 4 17 ?_; refine po 5 18 ?_; refine po 6 19 ?_; refine pu 7 20 ?_; refine pu 8 21 ?_; refine po 9 22 ?_; refine po 10 23 ?_; refine po 11 24 ?_; refine po 12 25 ?_; refine po 13 26 ?_; refine pu 14 27 ?_; refine pu 15 28 ?_; refine po 16 29 ?_; refine po 17 30 ?_; refine po 18 31 ?_; refine po 19 32 ?_; refine po 20 33 ?_; refine po 21 34 ?_; refine po 22 35 ?_; refine po 23 36 ?_; refine po 24 37 ?_; refine po 25 38 ?_; refine po 26 39 ?_; refine po 27 40 ?_; refine po 28 41 ?_; refine po 29 42 ?_; refine pu 30 43 ?_; refine done_ (done_of HT_.out (by kernel_rfl)) ?_
      try go_wp2
      go_ret; exact ⟨qR, qB⟩
     exact absurd H (by simp)
    rw [if_neg c5] at H
    exact absurd H (by simp)
   obtain rfl := Option.some.inj H
   go_wp2
   go_ret
   exact ⟨qR, qB⟩
def whirligigref06_Event.f (k : Nat) (a0 : ByteArray) : Option (Bool) := (whirligigref02_Event.f k a0).bind fun t438 => (if t438 = true then ((whirligigref02_Means.f k a0).bind fun t439 => (some (!t439))) else (some false))
set_option maxHeartbeats 8000000 in
set_option maxRecDepth 100000 in
theorem whirligigref06_Event.calls (k : Nat) (a0 : ByteArray) (r : Bool) (w : World) (h : whirligigref06_Event.f k a0 = some r) :
  Calls Tryd.prog 76 #[.string a0] w fun e w' => e = .returned (.bool r) ∧ Below w.heap.size w w' := by
 have HB := Aside0.mk (Below.refl w.heap.size w)
 have H : ((whirligigref02_Event.f k a0).bind fun t438 => (if t438 = true then ((whirligigref02_Means.f k a0).bind fun t439 => (some (!t439))) else (some false))) = some r := h
 clear h
 replace H := Option.bind_eq_some_iff.mp H
 obtain ⟨t438, A20, H⟩ := H
 (try dsimp -simprocs only at H)
 have A2 := Aside0.mk A20
 clear A20
 by_cases c3 : t438 = true
 ·subst c3
  rw [if_pos rfl] at H
  replace H := Option.bind_eq_some_iff.mp H
  obtain ⟨t439, A40, H⟩ := H
  (try dsimp -simprocs only at H)
  have A4 := Aside0.mk A40
  clear A40
  obtain rfl := Option.some.inj H
  go_enter Tryd.func76, Tryd.ntmps76
  go_wp2_with (first | ((with_reducible refine gc 25 rfl ?_); refine gl (some 4) #[.string a0] Tryd.func25 ?_; (with_reducible refine (whirligigref02_Event.calls k a0 true _ A2.out).mono ?_); rintro e w5 ⟨rfl, hb⟩; refine ⟨_, rfl, ?_⟩; replace HB := bst hb; (try clear hb)) | (go_at_call 29; (with_reducible refine (whirligigref02_Means.calls k a0 t439 _ A4.out).mono ?_); rintro e w' ⟨rfl, ⟨nd, rfl⟩⟩))
  go_ret
  exact ⟨qR, qB⟩
 replace c3 := Bool.eq_false_iff.mpr c3
 subst c3
 rw [if_neg (show ¬ (false = true) by decide)] at H
 obtain rfl := Option.some.inj H
 go_enter Tryd.func76, Tryd.ntmps76
 go_wp2_with (first | ((with_reducible refine gc 25 rfl ?_); refine gl (some 4) #[.string a0] Tryd.func25 ?_; (with_reducible refine (whirligigref02_Event.calls k a0 false _ A2.out).mono ?_); rintro e w6 ⟨rfl, hb⟩; refine ⟨_, rfl, ?_⟩; replace HB := bst hb; (try clear hb)))
 go_ret
 exact ⟨qR, qB⟩
def whirligigref22_RightInput.f (k : Nat) (a0_0 : Int) (a0_1 : Int) (a0_2 : ByteArray) (a0_3 : Int) : Option (Bool) := if a0_1 = 1 then (if a0_3 = 0 then ((whirligigref06_Event.f k a0_2).bind fun t441 => (some t441)) else (some false)) else (if a0_1 = 2 then (if a0_2.toList = ([] : List UInt8) then (if a0_3 ≥ 1 then (some (decide (a0_3 ≤ 1048576))) else (some false)) else (some false)) else (some false))
set_option maxHeartbeats 8000000 in
set_option maxRecDepth 100000 in
theorem whirligigref22_RightInput.calls (k : Nat) (a0_0 : Int) (a0_1 : Int) (a0_2 : ByteArray) (a0_3 : Int) (r : Bool) (w : World) (h : whirligigref22_RightInput.f k a0_0 a0_1 a0_2 a0_3 = some r) :
  Calls Tryd.prog 34 #[.agg #[.int .i64 a0_0, .int .i64 a0_1, .string a0_2, .int .i64 a0_3]] w fun e w' => e = .returned (.bool r) ∧ Below w.heap.size w w' := by
 have hu47 := Tryd.underlying47
 have HB := Aside0.mk (Below.refl w.heap.size w)
 have H : (if a0_1 = 1 then (if a0_3 = 0 then ((whirligigref06_Event.f k a0_2).bind fun t441 => (some t441)) else (some false)) else (if a0_1 = 2 then (if a0_2.toList = ([] : List UInt8) then (if a0_3 ≥ 1 then (some (decide (a0_3 ≤ 1048576))) else (some false)) else (some false)) else (some false))) = some r := h
 clear h
 by_cases c2 : a0_1 = 1
 ·rw [if_pos c2] at H
  have c2b0 := beq_iff_eq.mpr c2
  have c2b1 := bne_eq_false_iff_eq.mpr c2
  clear c2
  by_cases c3 : a0_3 = 0
  ·rw [if_pos c3] at H
   have c3b0 := beq_iff_eq.mpr c3
   have c3b1 := bne_eq_false_iff_eq.mpr c3
   clear c3
   replace H := Option.bind_eq_some_iff.mp H
   obtain ⟨t441, A40, H⟩ := H
   (try dsimp -simprocs only at H)
   have A4 := Aside0.mk A40
   clear A40
   obtain rfl := Option.some.inj H
   go_enter Tryd.func34, Tryd.ntmps34
   go_wp2_with (first | ((with_reducible refine gd 1 rfl ?_); refine bxx 1 #[.int .i64 a0_0, .int .i64 a0_1, .string a0_2, .int .i64 a0_3] 47 ?_; intro gb440 w5 BK440 GW440 HB; obtain ⟨_, _, _, _, _, _, _, _⟩ := cells4 BK440.out) | (go_at_call 76; (with_reducible refine (whirligigref06_Event.calls k a0_2 t441 _ A4.out).mono ?_); rintro e w7 ⟨rfl, hb⟩; replace BK440 := kb gb440 hb; replace HB := bst hb; (try clear hb)))
   go_ret
   exact ⟨qR, qB⟩
  rw [if_neg c3] at H
  have c3b0 := beq_eq_false_iff_ne.mpr c3
  have c3b1 := bne_iff_ne.mpr c3
  obtain rfl := Option.some.inj H
  go_enter Tryd.func34, Tryd.ntmps34
  go_wp2_with (first | ((with_reducible refine gd 1 rfl ?_); refine bxx 1 #[.int .i64 a0_0, .int .i64 a0_1, .string a0_2, .int .i64 a0_3] 47 ?_; intro gb440 w8 BK440 GW440 HB; obtain ⟨_, _, _, _, _, _, _, _⟩ := cells4 BK440.out))
  go_ret
  exact ⟨qR, qB⟩
 rw [if_neg c2] at H
 have c2b0 := beq_eq_false_iff_ne.mpr c2
 have c2b1 := bne_iff_ne.mpr c2
 by_cases c10 : a0_1 = 2
 ·rw [if_pos c10] at H
  have c10b0 := beq_iff_eq.mpr c10
  have c10b1 := bne_eq_false_iff_eq.mpr c10
  clear c10
  by_cases c11 : a0_2.toList = ([] : List UInt8)
  ·rw [if_pos c11] at H
   have c11b0 := beq_iff_eq.mpr c11
   have c11b1 := bne_eq_false_iff_eq.mpr c11
   clear c11
   replace H := iD H
   rcases H with ⟨c12b0, H⟩ | ⟨c12b0, H⟩
   ·obtain rfl := Option.some.inj H
    go_enter Tryd.func34, Tryd.ntmps34
    go_wp2_with (first | ((with_reducible refine gd 1 rfl ?_); refine bxx 1 #[.int .i64 a0_0, .int .i64 a0_1, .string a0_2, .int .i64 a0_3] 47 ?_; intro gb440 w13 BK440 GW440 HB; obtain ⟨_, _, _, _, _, _, _, _⟩ := cells4 BK440.out))
    go_ret
    exact ⟨qR, qB⟩
   obtain rfl := Option.some.inj H
   go_enter Tryd.func34, Tryd.ntmps34
   go_wp2_with (first | ((with_reducible refine gd 1 rfl ?_); refine bxx 1 #[.int .i64 a0_0, .int .i64 a0_1, .string a0_2, .int .i64 a0_3] 47 ?_; intro gb440 w15 BK440 GW440 HB; obtain ⟨_, _, _, _, _, _, _, _⟩ := cells4 BK440.out))
   go_ret
   exact ⟨qR, qB⟩
  rw [if_neg c11] at H
  have c11b0 := beq_eq_false_iff_ne.mpr c11
  have c11b1 := bne_iff_ne.mpr c11
  obtain rfl := Option.some.inj H
  go_enter Tryd.func34, Tryd.ntmps34
  go_wp2_with (first | ((with_reducible refine gd 1 rfl ?_); refine bxx 1 #[.int .i64 a0_0, .int .i64 a0_1, .string a0_2, .int .i64 a0_3] 47 ?_; intro gb440 w17 BK440 GW440 HB; obtain ⟨_, _, _, _, _, _, _, _⟩ := cells4 BK440.out))
  go_ret
  exact ⟨qR, qB⟩
 rw [if_neg c10] at H
 have c10b0 := beq_eq_false_iff_ne.mpr c10
 have c10b1 := bne_iff_ne.mpr c10
 obtain rfl := Option.some.inj H
 go_enter Tryd.func34, Tryd.ntmps34
 go_wp2_with (first | ((with_reducible refine gd 1 rfl ?_); refine bxx 1 #[.int .i64 a0_0, .int .i64 a0_1, .string a0_2, .int .i64 a0_3] 47 ?_; intro gb440 w19 BK440 GW440 HB; obtain ⟨_, _, _, _, _, _, _, _⟩ := cells4 BK440.out))
 go_ret
 exact ⟨qR, qB⟩
end Go.Proofs.YtbngfhlciebeeaaDoor.L
end
