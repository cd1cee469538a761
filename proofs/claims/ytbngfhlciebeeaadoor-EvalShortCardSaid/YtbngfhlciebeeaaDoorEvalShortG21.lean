/- Printed and hand-written steps towards the row (EvalShort), those that it reaches. -/
import Derived.Test.YtbngfhlciebeeaaDoorEvalShortG3
import Derived.Test.YtbngfhlciebeeaaDoorEvalShortG4
import Derived.Test.YtbngfhlciebeeaaDoorEvalShortG20
import Derived.Test.YtbngfhlciebeeaaDoorEvalShortG15
import Derived.Test.YtbngfhlciebeeaaDoorEvalShortG8
import Derived.Test.YtbngfhlciebeeaaDoorEvalShortG19
import Derived.KernelRfl
section
namespace Go.Proofs.YtbngfhlciebeeaaDoor.L
open Go.RowKit Go.Proofs.YtbngfhlciebeeaaDoorW.PrintWords Go.Proofs.YtbngfhlciebeeaaDoorW.PrintLast Go.Proofs.YtbngfhlciebeeaaDoorW.PrintMore
attribute [local go_sem] max2_int min2_int max_two min_two max_three min_three max_four min_four   -- for this text's walks alone
set_option linter.unusedVariables false
set_option linter.unusedSimpArgs false
def whirligiglaw05_cells.l0 : Nat → List (S166) → List (S116) → Int → Int → List (S116) → List ByteArray → Option ((List (S166)) × Bool)
 | 0, _, _, _, _, _, _ => none
 | k + 1, x4, x8, x9, x10, x1177000, x1177001 => if x10 < x9 then (if 0 ≤ x10 then (if x10 < (x8.length : Int) then (if (((rd_T116 x8 x10).f1.f2).size : Int) > 100 then (some (([] : List (S166)), false)) else ((whirligigref01_Right.f k ((rd_T116 x8 x10).f1.f0) ((rd_T116 x8 x10).f1.f1) ((rd_T116 x8 x10).f1.f2)).bind fun t1179 => (if t1179 = true then (if x4.length < 2932031007402 then (whirligiglaw05_cells.l0 k (x4 ++ [(⟨(rd_T116 x8 x10).f0, (⟨(rd_T116 x8 x10).f1.f0, (rd_T116 x8 x10).f1.f1, (rd_T116 x8 x10).f1.f2⟩ : S106)⟩ : S166)]) x8 x9 (wrap64 (x10 + 1)) x1177000 x1177001) else (none)) else (some (([] : List (S166)), false))))) else (none)) else (none)) else (if (x1177000.length : Int) ≤ 100 then (some (x4, decide ((x1177001.length : Int) ≤ 100))) else (some (x4, false)))
def whirligiglaw05_cells.f (k : Nat) (l0_0 : List (S116)) (l0_1 : List ByteArray) : Option ((List (S166)) × Bool) := whirligiglaw05_cells.l0 k ([] : List (S166)) l0_0 (l0_0.length : Int) 0 l0_0 l0_1
set_option maxHeartbeats 8000000 in
set_option maxRecDepth 100000 in
theorem whirligiglaw05_cells.calls (k : Nat) (A0_0 : Option Addr) (c0_0 : Nat) (l0_0 : List (S116)) (A0_1 : Option Addr) (c0_1 : Nat) (l0_1 : List ByteArray) (r1 : List (S166)) (r2 : Bool) (w : World) (hr0_0 : Kd.C k116 w A0_0 l0_0.length l0_0) (hc0_0 : l0_0.length ≤ c0_0) (hr0_1 : Kd.C Kd.string w A0_1 l0_1.length l0_1) (hc0_1 : l0_1.length ≤ c0_1) (h : whirligiglaw05_cells.f k l0_0 l0_1 = some (r1, r2)) :
  Calls Tryd.prog 60 #[.agg #[.slice A0_0 l0_0.length c0_0, .slice A0_1 l0_1.length c0_1]] w fun e w' => ∃ v0_ : Value, e = .returned (.tuple #[v0_, .bool r2]) ∧ Kd.R k166 166 w' w.heap.size (fun _ => True) v0_ r1 ∧ Below w.heap.size w w' := by
 have hu98 := Tryd.underlying98
 have hu116 := Tryd.underlying116
 have hu103 := Tryd.underlying103
 have hu166 := Tryd.underlying166
 have HR0_0 := Aside0.mk hr0_0
 have HC0_0 := Aside0.mk hc0_0
 clear hr0_0 hc0_0
 have HR0_1 := Aside0.mk hr0_1
 have HC0_1 := Aside0.mk hc0_1
 clear hr0_1 hc0_1
 have HB := Aside0.mk (Below.refl w.heap.size w)
 have H : (whirligiglaw05_cells.l0 k ([] : List (S166)) l0_0 (l0_0.length : Int) 0 l0_0 l0_1) = some (r1, r2) := h
 clear h
 have H' := Aside0.mk H
 clear H
 go_enter Tryd.func60, Tryd.ntmps60
 go_wp2_with (first | ((with_reducible refine gate_dst (N := 1) rfl ?_); (try (refine gate_guard (by rfl) ?_; dsimp only)); refine box_event ?hg (N := 1) ?hd (cs := #[.slice A0_0 l0_0.length c0_0, .slice A0_1 l0_1.length c0_1]) (t := 98) ?hr ?_; (case hd => rfl); (case hg => rfl); (case hr => first | (go_simp; done) | (go_simp; rfl)); intro gb1176 hg w2 hbox hb; have BK1176 := Aside0.mk (hbox); have GW1176 := geS hg; have GE1176 := geS hg; replace HB := bst hb; clear hb hbox hg; obtain ⟨_, _, _, _⟩ := cells2 BK1176.out))
 repeat (go_quiet (first | ((with_reducible refine gate_dst (N := 1) rfl ?_); (try (refine gate_guard (by rfl) ?_; dsimp only)); refine box_event ?hg (N := 1) ?hd (cs := #[.slice A0_0 l0_0.length c0_0, .slice A0_1 l0_1.length c0_1]) (t := 98) ?hr ?_; (case hd => rfl); (case hg => rfl); (case hr => first | (go_simp; done) | (go_simp; rfl)); intro gb1176 hg w2 hbox hb; have BK1176 := Aside0.mk (hbox); have GW1176 := geS hg; have GE1176 := geS hg; replace HB := bst hb; clear hb hbox hg; obtain ⟨_, _, _, _⟩ := cells2 BK1176.out)); try go_wp2_with (first | ((with_reducible refine gate_dst (N := 1) rfl ?_); (try (refine gate_guard (by rfl) ?_; dsimp only)); refine box_event ?hg (N := 1) ?hd (cs := #[.slice A0_0 l0_0.length c0_0, .slice A0_1 l0_1.length c0_1]) (t := 98) ?hr ?_; (case hd => rfl); (case hg => rfl); (case hr => first | (go_simp; done) | (go_simp; rfl)); intro gb1176 hg w2 hbox hb; have BK1176 := Aside0.mk (hbox); have GW1176 := geS hg; have GE1176 := geS hg; replace HB := bst hb; clear hb hbox hg; obtain ⟨_, _, _, _⟩ := cells2 BK1176.out)))
 go_loopg [4, 10] k (fun kq v4 v10 w' => ∃ (x4_1 : List (S166)) (x10_1 : Int), v10 = .int .i64 x10_1 ∧ Aside0 (whirligiglaw05_cells.l0 kq x4_1 l0_0 (l0_0.length : Int) x10_1 l0_0 l0_1 = some (r1, r2)) ∧ Aside0 (kq ≤ k) ∧ Aside0 (Kd.R k166 166 w' w.heap.size (fun _ => True) v4 x4_1) ∧ Aside0 (w'.heap[gb1176]? = some (.cells #[(.slice A0_0 l0_0.length c0_0), (.slice A0_1 l0_1.length c0_1)] 98 (0, 0))) ∧ Aside0 (Below w.heap.size w w'))
 case atStart => exact ⟨(([] : List (S166))), (0), qE, H', ⟨Nat.le_refl _⟩, ⟨by first | exact Kd.R_nil _ _ _ _ _ | exact Kd.N_nil _ _ _ _ _ | exact Kd.V_nil _ _ _ _ _ | exact Kd.Q_nil _ _ _ _ _ | exact Kd.S_nil _ _ _ _ _⟩, ⟨qK⟩, ⟨qB⟩⟩
 case round =>
  clear H'
  try clear p2
  obtain ⟨x4_1, x10_1, rfl, HA, HK1, HO_4, BK1176, HB⟩ := hrel
  cases gk with
  | zero => exact absurd HA.out (by simp [whirligiglaw05_cells.l0])
  | succ k1 =>
   have H := HA.out
   clear HA
   simp only [whirligiglaw05_cells.l0] at H
   replace H := iD H
   rcases H with ⟨c4b0, H⟩ | ⟨c4b0, H⟩
   ·by_cases c5 : 0 ≤ x10_1
    ·rw [if_pos c5] at H; have c5b0 := decide_eq_true c5; clear c5; replace H := iD H
     rcases H with ⟨c6b0, H⟩ | ⟨c6b0, H⟩
     ·by_cases c7 : (((rd_T116 l0_0 x10_1).f1.f2).size : Int) > 100
      ·rw [if_pos c7] at H; have c7b0 := decide_eq_true c7; have c7b1 : decide (100 < ((rd_T116 l0_0 x10_1).f1.f2).size) = true := decide_eq_true (by omega); clear c7; simp only [Option.some.injEq, Prod.mk.injEq] at H; obtain ⟨rfl, rfl⟩ := H; have p1177 : 0 ≤ (x10_1 : Int) := qD; have q1177 : x10_1 < (l0_0.length : Int) := qD; obtain ⟨ad1177, e1177, hx1177_0, hx1177_1, hx1177_2, hx1177_3⟩ := at_T116 (Kd.C_below HR0_0.out HB.out) x10_1 p1177 q1177; cases e1177; replace p1177 := eq_true p1177; replace q1177 := eq_true q1177
       go_wp2_with (first | ((with_reducible refine gate_dst (N := 6) rfl ?_); (try (refine gate_guard (by rfl) ?_; dsimp only)); refine box_event ?hg (N := 6) ?hd (cs := #[.string (⟨#[]⟩ : ByteArray), .int .i64 0, .int .i64 0, .string (⟨#[]⟩ : ByteArray)]) (t := 116) ?hr ?_; (case hd => rfl); (case hg => rfl); (case hr => first | (go_simp; done) | (go_simp; rfl)); intro gb1178 hg w8 hbox hb; have BK1178 := Aside0.mk (hbox); have GW1178 := geS hg; have GE1178 := geS hg; have NB1176_1178 := neS gb1176 hg; have NB1178_1176 := neT gb1176 hg; replace BK1176 := kb gb1176 hb; replace HO_4 := rb HO_4 hb; replace HB := bst hb; clear hb hbox hg; have := NB1178_1176.out; have := NB1176_1178.out; obtain ⟨_, _, _, _, _, _, _, _⟩ := cells4 BK1178.out))
       repeat (go_quiet (first | ((with_reducible refine gate_dst (N := 6) rfl ?_); (try (refine gate_guard (by rfl) ?_; dsimp only)); refine box_event ?hg (N := 6) ?hd (cs := #[.string (⟨#[]⟩ : ByteArray), .int .i64 0, .int .i64 0, .string (⟨#[]⟩ : ByteArray)]) (t := 116) ?hr ?_; (case hd => rfl); (case hg => rfl); (case hr => first | (go_simp; done) | (go_simp; rfl)); intro gb1178 hg w8 hbox hb; have BK1178 := Aside0.mk (hbox); have GW1178 := geS hg; have GE1178 := geS hg; have NB1176_1178 := neS gb1176 hg; have NB1178_1176 := neT gb1176 hg; replace BK1176 := kb gb1176 hb; replace HO_4 := rb HO_4 hb; replace HB := bst hb; clear hb hbox hg; have := NB1178_1176.out; have := NB1176_1178.out; obtain ⟨_, _, _, _, _, _, _, _⟩ := cells4 BK1178.out)); try go_wp2_with (first | ((with_reducible refine gate_dst (N := 6) rfl ?_); (try (refine gate_guard (by rfl) ?_; dsimp only)); refine box_event ?hg (N := 6) ?hd (cs := #[.string (⟨#[]⟩ : ByteArray), .int .i64 0, .int .i64 0, .string (⟨#[]⟩ : ByteArray)]) (t := 116) ?hr ?_; (case hd => rfl); (case hg => rfl); (case hr => first | (go_simp; done) | (go_simp; rfl)); intro gb1178 hg w8 hbox hb; have BK1178 := Aside0.mk (hbox); have GW1178 := geS hg; have GE1178 := geS hg; have NB1176_1178 := neS gb1176 hg; have NB1178_1176 := neT gb1176 hg; replace BK1176 := kb gb1176 hb; replace HO_4 := rb HO_4 hb; replace HB := bst hb; clear hb hbox hg; have := NB1178_1176.out; have := NB1176_1178.out; obtain ⟨_, _, _, _, _, _, _, _⟩ := cells4 BK1178.out)))
       go_ret2; exact ⟨_, qR, by first | exact Kd.R_nil _ _ _ _ _ | exact Kd.N_nil _ _ _ _ _ | exact Kd.V_nil _ _ _ _ _ | exact Kd.Q_nil _ _ _ _ _ | exact Kd.S_nil _ _ _ _ _, qB⟩
      rw [if_neg c7] at H; have c7b0 := decide_eq_false c7; have c7b1 : decide (100 < ((rd_T116 l0_0 x10_1).f1.f2).size) = false := decide_eq_false (by omega); clear c7; replace H := Option.bind_eq_some_iff.mp H; obtain ⟨t1179, A110, H⟩ := H; (try dsimp -simprocs only at H); have A11 := Aside0.mk A110; clear A110
      by_cases c12 : t1179 = true
      ·subst c12; rw [if_pos rfl] at H
       by_cases c13 : x4_1.length < 2932031007402
       ·rw [if_pos c13] at H; have LMc13 := Aside0.mk c13; clear c13; obtain ⟨y1180, hy1180⟩ : ∃ y_ : List (S166), y_ = (x4_1 ++ [(⟨(rd_T116 l0_0 x10_1).f0, (⟨(rd_T116 l0_0 x10_1).f1.f0, (rd_T116 l0_0 x10_1).f1.f1, (rd_T116 l0_0 x10_1).f1.f2⟩ : S106)⟩ : S166)]) := ⟨_, rfl⟩; replace H : (whirligiglaw05_cells.l0 k1 y1180 l0_0 (l0_0.length : Int) (wrap64 (x10_1 + 1)) l0_0 l0_1) = some (r1, r2) := by first | (rw [hy1180]; with_reducible exact H) | (have H2_ := (Option.bind_some _ _).symm.trans H; rw [hy1180]; with_reducible exact H2_) | (have H2_ := (Option.bind_some _ _).symm.trans H; with_reducible exact H2_) | with_reducible exact H | (rw [hy1180]; exact H) | exact H
        have Ny1180 := Aside0.mk hy1180; clear hy1180; have H' := Aside0.mk H; clear H; have p1177 : 0 ≤ (x10_1 : Int) := qD; have q1177 : x10_1 < (l0_0.length : Int) := qD; obtain ⟨ad1177, e1177, hx1177_0, hx1177_1, hx1177_2, hx1177_3⟩ := at_T116 (Kd.C_below HR0_0.out HB.out) x10_1 p1177 q1177; cases e1177; replace p1177 := eq_true p1177; replace q1177 := eq_true q1177
        go_wp2_with (first | ((with_reducible refine gate_dst (N := 6) rfl ?_); (try (refine gate_guard (by rfl) ?_; dsimp only)); refine box_event ?hg (N := 6) ?hd (cs := #[.string (⟨#[]⟩ : ByteArray), .int .i64 0, .int .i64 0, .string (⟨#[]⟩ : ByteArray)]) (t := 116) ?hr ?_; (case hd => rfl); (case hg => rfl); (case hr => first | (go_simp; done) | (go_simp; rfl)); intro gb1178 hg w14 hbox hb; have BK1178 := Aside0.mk (hbox); have GW1178 := geS hg; have GE1178 := geS hg; have NB1176_1178 := neS gb1176 hg; have NB1178_1176 := neT gb1176 hg; replace BK1176 := kb gb1176 hb; replace HO_4 := rb HO_4 hb; replace HB := bst hb; clear hb hbox hg; have := NB1178_1176.out; have := NB1176_1178.out; obtain ⟨_, _, _, _, _, _, _, _⟩ := cells4 BK1178.out) | (go_at_call 97; (with_reducible refine (whirligigref01_Right.calls k1 ((rd_T116 l0_0 x10_1).f1.f0) ((rd_T116 l0_0 x10_1).f1.f1) ((rd_T116 l0_0 x10_1).f1.f2) true _ A11.out).mono ?_); rintro e w17 ⟨rfl, hb⟩; have n0_ := Aside0.mk (Kd.R_below (by (with_reducible repeat (first | apply Kd.R_alloc | apply Kd.R_drewN | apply Kd.R_drew)); exact (Kd.R_mono (Kd.R_far (p := ⟨gb1178, 3, none⟩) (Kd.R_far (p := ⟨gb1178, 2, none⟩) (Kd.R_far (p := ⟨gb1178, 1, none⟩) (Kd.R_far (p := ⟨gb1178, 0, none⟩) (Kd.R_types HO_4.out BK1178.out (by decide)) (fun _ hk => hk.2) (.string ((rd_T116 l0_0 x10_1).f0))) (fun _ hk => hk.2) (.int .i64 ((rd_T116 l0_0 x10_1).f1.f0))) (fun _ hk => hk.2) (.int .i64 ((rd_T116 l0_0 x10_1).f1.f1))) (fun _ hk => hk.2) (.string ((rd_T116 l0_0 x10_1).f1.f2))) (fun _ h_ => h_.1))) hb); have n1_ := kb gb1176 hb; have n2_ := kp gb1178 (.cells #[.string ((rd_T116 l0_0 x10_1).f0), .int .i64 ((rd_T116 l0_0 x10_1).f1.f0), .int .i64 ((rd_T116 l0_0 x10_1).f1.f1), .string ((rd_T116 l0_0 x10_1).f1.f2)] 116 (0, 0)) hb; have n3_ := bst hb; clear HO_4; clear BK1176; clear BK1178; clear HB; have HO_4 := n0_; have BK1176 := n1_; have BK1178 := n2_; have HB := n3_; clear n0_ n1_ n2_ n3_; (try clear hb); obtain ⟨_, _, _, _, _, _, _, _⟩ := cells4 BK1178.out) | ((with_reducible refine gate_builtin (b := .append) (xs := #[.tmp 25, .tmp 31]) rfl ?_); (try (refine gate_guard (by rfl) ?_; dsimp only)); at_builtin; refine Kd.R_append k166 (w0 := w) w.heap.size rfl (.tmp 25) (.tmp 31) 99 166 (.agg #[(.string ⟨#[]⟩), (.int .i64 0), (.int .i64 0), (.string ⟨#[]⟩)]) 48 rfl Tryd.underlying99 info166 rfl (by decide) (by omega) u4 x4_1 (⟨(rd_T116 l0_0 x10_1).f0, (⟨(rd_T116 l0_0 x10_1).f1.f0, (rd_T116 l0_0 x10_1).f1.f1, (rd_T116 l0_0 x10_1).f1.f2⟩ : S106)⟩ : S166) [.string ((rd_T116 l0_0 x10_1).f0), .int .i64 ((rd_T116 l0_0 x10_1).f1.f0), .int .i64 ((rd_T116 l0_0 x10_1).f1.f1), .string ((rd_T116 l0_0 x10_1).f1.f2)] (fun _ => True) (fun _ => False) rfl rfl ?aP (fun _ hk => hk.elim) ?aF ?aO ?aB ?aS ?aL ?_; (case aP => exact k166_mkM _ _ _ (⟨(rd_T116 l0_0 x10_1).f0, (⟨(rd_T116 l0_0 x10_1).f1.f0, (rd_T116 l0_0 x10_1).f1.f1, (rd_T116 l0_0 x10_1).f1.f2⟩ : S106)⟩ : S166)); (case aB => exact qB); (case aF => exact (fun _ _ => trivial)); (case aO => exact (by (with_reducible repeat (first | apply Kd.R_alloc | apply Kd.R_drewN | apply Kd.R_drew)); exact HO_4.out)); (case aS => exact (below_size qB)); (case aL => have := LMc13.out; omega); intro v1181 w19 ho hb hg hat; rw [← Ny1180.out] at ho; have n0_ := Aside0.mk (blk_grown (g := gb1176) (o := .cells #[.slice (some ad1177) l0_0.length c0_0, .slice A0_1 l0_1.length c0_1] 98 (0, 0)) qK hg (Kd.R_ne HO_4.out BK1176.out (by decide))); have n1_ := Aside0.mk (blk_grown (g := gb1178) (o := .cells #[.string ((rd_T116 l0_0 x10_1).f0), .int .i64 ((rd_T116 l0_0 x10_1).f1.f0), .int .i64 ((rd_T116 l0_0 x10_1).f1.f1), .string ((rd_T116 l0_0 x10_1).f1.f2)] 116 (0, 0)) qK hg (Kd.R_ne HO_4.out BK1178.out (by decide))); have n2_ := Aside0.mk (hb); have n3_ := Aside0.mk (ho); clear BK1176; clear BK1178; clear HB; clear HO_4; have BK1176 := n0_; have BK1178 := n1_; have HB := n2_; have HO1182 := n3_; clear n0_ n1_ n2_ n3_; clear ho hb hg hat))
        repeat (go_quiet (first | ((with_reducible refine gate_dst (N := 6) rfl ?_); (try (refine gate_guard (by rfl) ?_; dsimp only)); refine box_event ?hg (N := 6) ?hd (cs := #[.string (⟨#[]⟩ : ByteArray), .int .i64 0, .int .i64 0, .string (⟨#[]⟩ : ByteArray)]) (t := 116) ?hr ?_; (case hd => rfl); (case hg => rfl); (case hr => first | (go_simp; done) | (go_simp; rfl)); intro gb1178 hg w14 hbox hb; have BK1178 := Aside0.mk (hbox); have GW1178 := geS hg; have GE1178 := geS hg; have NB1176_1178 := neS gb1176 hg; have NB1178_1176 := neT gb1176 hg; replace BK1176 := kb gb1176 hb; replace HO_4 := rb HO_4 hb; replace HB := bst hb; clear hb hbox hg; have := NB1178_1176.out; have := NB1176_1178.out; obtain ⟨_, _, _, _, _, _, _, _⟩ := cells4 BK1178.out) | (go_at_call 97; (with_reducible refine (whirligigref01_Right.calls k1 ((rd_T116 l0_0 x10_1).f1.f0) ((rd_T116 l0_0 x10_1).f1.f1) ((rd_T116 l0_0 x10_1).f1.f2) true _ A11.out).mono ?_); rintro e w17 ⟨rfl, hb⟩; have n0_ := Aside0.mk (Kd.R_below (by (with_reducible repeat (first | apply Kd.R_alloc | apply Kd.R_drewN | apply Kd.R_drew)); exact (Kd.R_mono (Kd.R_far (p := ⟨gb1178, 3, none⟩) (Kd.R_far (p := ⟨gb1178, 2, none⟩) (Kd.R_far (p := ⟨gb1178, 1, none⟩) (Kd.R_far (p := ⟨gb1178, 0, none⟩) (Kd.R_types HO_4.out BK1178.out (by decide)) (fun _ hk => hk.2) (.string ((rd_T116 l0_0 x10_1).f0))) (fun _ hk => hk.2) (.int .i64 ((rd_T116 l0_0 x10_1).f1.f0))) (fun _ hk => hk.2) (.int .i64 ((rd_T116 l0_0 x10_1).f1.f1))) (fun _ hk => hk.2) (.string ((rd_T116 l0_0 x10_1).f1.f2))) (fun _ h_ => h_.1))) hb); have n1_ := kb gb1176 hb; have n2_ := kp gb1178 (.cells #[.string ((rd_T116 l0_0 x10_1).f0), .int .i64 ((rd_T116 l0_0 x10_1).f1.f0), .int .i64 ((rd_T116 l0_0 x10_1).f1.f1), .string ((rd_T116 l0_0 x10_1).f1.f2)] 116 (0, 0)) hb; have n3_ := bst hb; clear HO_4; clear BK1176; clear BK1178; clear HB; have HO_4 := n0_; have BK1176 := n1_; have BK1178 := n2_; have HB := n3_; clear n0_ n1_ n2_ n3_; (try clear hb); obtain ⟨_, _, _, _, _, _, _, _⟩ := cells4 BK1178.out) | ((with_reducible refine gate_builtin (b := .append) (xs := #[.tmp 25, .tmp 31]) rfl ?_); (try (refine gate_guard (by rfl) ?_; dsimp only)); at_builtin; refine Kd.R_append k166 (w0 := w) w.heap.size rfl (.tmp 25) (.tmp 31) 99 166 (.agg #[(.string ⟨#[]⟩), (.int .i64 0), (.int .i64 0), (.string ⟨#[]⟩)]) 48 rfl Tryd.underlying99 info166 rfl (by decide) (by omega) u4 x4_1 (⟨(rd_T116 l0_0 x10_1).f0, (⟨(rd_T116 l0_0 x10_1).f1.f0, (rd_T116 l0_0 x10_1).f1.f1, (rd_T116 l0_0 x10_1).f1.f2⟩ : S106)⟩ : S166) [.string ((rd_T116 l0_0 x10_1).f0), .int .i64 ((rd_T116 l0_0 x10_1).f1.f0), .int .i64 ((rd_T116 l0_0 x10_1).f1.f1), .string ((rd_T116 l0_0 x10_1).f1.f2)] (fun _ => True) (fun _ => False) rfl rfl ?aP (fun _ hk => hk.elim) ?aF ?aO ?aB ?aS ?aL ?_; (case aP => exact k166_mkM _ _ _ (⟨(rd_T116 l0_0 x10_1).f0, (⟨(rd_T116 l0_0 x10_1).f1.f0, (rd_T116 l0_0 x10_1).f1.f1, (rd_T116 l0_0 x10_1).f1.f2⟩ : S106)⟩ : S166)); (case aB => exact qB); (case aF => exact (fun _ _ => trivial)); (case aO => exact (by (with_reducible repeat (first | apply Kd.R_alloc | apply Kd.R_drewN | apply Kd.R_drew)); exact HO_4.out)); (case aS => exact (below_size qB)); (case aL => have := LMc13.out; omega); intro v1181 w19 ho hb hg hat; rw [← Ny1180.out] at ho; have n0_ := Aside0.mk (blk_grown (g := gb1176) (o := .cells #[.slice (some ad1177) l0_0.length c0_0, .slice A0_1 l0_1.length c0_1] 98 (0, 0)) qK hg (Kd.R_ne HO_4.out BK1176.out (by decide))); have n1_ := Aside0.mk (blk_grown (g := gb1178) (o := .cells #[.string ((rd_T116 l0_0 x10_1).f0), .int .i64 ((rd_T116 l0_0 x10_1).f1.f0), .int .i64 ((rd_T116 l0_0 x10_1).f1.f1), .string ((rd_T116 l0_0 x10_1).f1.f2)] 116 (0, 0)) qK hg (Kd.R_ne HO_4.out BK1178.out (by decide))); have n2_ := Aside0.mk (hb); have n3_ := Aside0.mk (ho); clear BK1176; clear BK1178; clear HB; clear HO_4; have BK1176 := n0_; have BK1178 := n1_; have HB := n2_; have HO1182 := n3_; clear n0_ n1_ n2_ n3_; clear ho hb hg hat)); try go_wp2_with (first | ((with_reducible refine gate_dst (N := 6) rfl ?_); (try (refine gate_guard (by rfl) ?_; dsimp only)); refine box_event ?hg (N := 6) ?hd (cs := #[.string (⟨#[]⟩ : ByteArray), .int .i64 0, .int .i64 0, .string (⟨#[]⟩ : ByteArray)]) (t := 116) ?hr ?_; (case hd => rfl); (case hg => rfl); (case hr => first | (go_simp; done) | (go_simp; rfl)); intro gb1178 hg w14 hbox hb; have BK1178 := Aside0.mk (hbox); have GW1178 := geS hg; have GE1178 := geS hg; have NB1176_1178 := neS gb1176 hg; have NB1178_1176 := neT gb1176 hg; replace BK1176 := kb gb1176 hb; replace HO_4 := rb HO_4 hb; replace HB := bst hb; clear hb hbox hg; have := NB1178_1176.out; have := NB1176_1178.out; obtain ⟨_, _, _, _, _, _, _, _⟩ := cells4 BK1178.out) | (go_at_call 97; (with_reducible refine (whirligigref01_Right.calls k1 ((rd_T116 l0_0 x10_1).f1.f0) ((rd_T116 l0_0 x10_1).f1.f1) ((rd_T116 l0_0 x10_1).f1.f2) true _ A11.out).mono ?_); rintro e w17 ⟨rfl, hb⟩; have n0_ := Aside0.mk (Kd.R_below (by (with_reducible repeat (first | apply Kd.R_alloc | apply Kd.R_drewN | apply Kd.R_drew)); exact (Kd.R_mono (Kd.R_far (p := ⟨gb1178, 3, none⟩) (Kd.R_far (p := ⟨gb1178, 2, none⟩) (Kd.R_far (p := ⟨gb1178, 1, none⟩) (Kd.R_far (p := ⟨gb1178, 0, none⟩) (Kd.R_types HO_4.out BK1178.out (by decide)) (fun _ hk => hk.2) (.string ((rd_T116 l0_0 x10_1).f0))) (fun _ hk => hk.2) (.int .i64 ((rd_T116 l0_0 x10_1).f1.f0))) (fun _ hk => hk.2) (.int .i64 ((rd_T116 l0_0 x10_1).f1.f1))) (fun _ hk => hk.2) (.string ((rd_T116 l0_0 x10_1).f1.f2))) (fun _ h_ => h_.1))) hb); have n1_ := kb gb1176 hb; have n2_ := kp gb1178 (.cells #[.string ((rd_T116 l0_0 x10_1).f0), .int .i64 ((rd_T116 l0_0 x10_1).f1.f0), .int .i64 ((rd_T116 l0_0 x10_1).f1.f1), .string ((rd_T116 l0_0 x10_1).f1.f2)] 116 (0, 0)) hb; have n3_ := bst hb; clear HO_4; clear BK1176; clear BK1178; clear HB; have HO_4 := n0_; have BK1176 := n1_; have BK1178 := n2_; have HB := n3_; clear n0_ n1_ n2_ n3_; (try clear hb); obtain ⟨_, _, _, _, _, _, _, _⟩ := cells4 BK1178.out) | ((with_reducible refine gate_builtin (b := .append) (xs := #[.tmp 25, .tmp 31]) rfl ?_); (try (refine gate_guard (by rfl) ?_; dsimp only)); at_builtin; refine Kd.R_append k166 (w0 := w) w.heap.size rfl (.tmp 25) (.tmp 31) 99 166 (.agg #[(.string ⟨#[]⟩), (.int .i64 0), (.int .i64 0), (.string ⟨#[]⟩)]) 48 rfl Tryd.underlying99 info166 rfl (by decide) (by omega) u4 x4_1 (⟨(rd_T116 l0_0 x10_1).f0, (⟨(rd_T116 l0_0 x10_1).f1.f0, (rd_T116 l0_0 x10_1).f1.f1, (rd_T116 l0_0 x10_1).f1.f2⟩ : S106)⟩ : S166) [.string ((rd_T116 l0_0 x10_1).f0), .int .i64 ((rd_T116 l0_0 x10_1).f1.f0), .int .i64 ((rd_T116 l0_0 x10_1).f1.f1), .string ((rd_T116 l0_0 x10_1).f1.f2)] (fun _ => True) (fun _ => False) rfl rfl ?aP (fun _ hk => hk.elim) ?aF ?aO ?aB ?aS ?aL ?_; (case aP => exact k166_mkM _ _ _ (⟨(rd_T116 l0_0 x10_1).f0, (⟨(rd_T116 l0_0 x10_1).f1.f0, (rd_T116 l0_0 x10_1).f1.f1, (rd_T116 l0_0 x10_1).f1.f2⟩ : S106)⟩ : S166)); (case aB => exact qB); (case aF => exact (fun _ _ => trivial)); (case aO => exact (by (with_reducible repeat (first | apply Kd.R_alloc | apply Kd.R_drewN | apply Kd.R_drew)); exact HO_4.out)); (case aS => exact (below_size qB)); (case aL => have := LMc13.out; omega); intro v1181 w19 ho hb hg hat; rw [← Ny1180.out] at ho; have n0_ := Aside0.mk (blk_grown (g := gb1176) (o := .cells #[.slice (some ad1177) l0_0.length c0_0, .slice A0_1 l0_1.length c0_1] 98 (0, 0)) qK hg (Kd.R_ne HO_4.out BK1176.out (by decide))); have n1_ := Aside0.mk (blk_grown (g := gb1178) (o := .cells #[.string ((rd_T116 l0_0 x10_1).f0), .int .i64 ((rd_T116 l0_0 x10_1).f1.f0), .int .i64 ((rd_T116 l0_0 x10_1).f1.f1), .string ((rd_T116 l0_0 x10_1).f1.f2)] 116 (0, 0)) qK hg (Kd.R_ne HO_4.out BK1178.out (by decide))); have n2_ := Aside0.mk (hb); have n3_ := Aside0.mk (ho); clear BK1176; clear BK1178; clear HB; clear HO_4; have BK1176 := n0_; have BK1178 := n1_; have HB := n2_; have HO1182 := n3_; clear n0_ n1_ n2_ n3_; clear ho hb hg hat)))
        go_roundg k1
        case measure => have := HK1.out; omega
        case rel => exact ⟨(y1180), (wrap64 (x10_1 + 1)), qE, H', ⟨by have := HK1.out; omega⟩, ⟨by (with_reducible repeat (first | apply Kd.R_alloc | apply Kd.R_drewN | apply Kd.R_drew)); exact HO1182.out⟩, ⟨qK⟩, ⟨qB⟩⟩
       rw [if_neg c13] at H; exact absurd H (by simp)
      replace c12 := Bool.eq_false_iff.mpr c12; subst c12; rw [if_neg (show ¬ (false = true) by decide)] at H; simp only [Option.some.injEq, Prod.mk.injEq] at H; obtain ⟨rfl, rfl⟩ := H; have p1177 : 0 ≤ (x10_1 : Int) := qD; have q1177 : x10_1 < (l0_0.length : Int) := qD; obtain ⟨ad1177, e1177, hx1177_0, hx1177_1, hx1177_2, hx1177_3⟩ := at_T116 (Kd.C_below HR0_0.out HB.out) x10_1 p1177 q1177; cases e1177; replace p1177 := eq_true p1177; replace q1177 := eq_true q1177
      go_wp2_with (first | ((with_reducible refine gate_dst (N := 6) rfl ?_); (try (refine gate_guard (by rfl) ?_; dsimp only)); refine box_event ?hg (N := 6) ?hd (cs := #[.string (⟨#[]⟩ : ByteArray), .int .i64 0, .int .i64 0, .string (⟨#[]⟩ : ByteArray)]) (t := 116) ?hr ?_; (case hd => rfl); (case hg => rfl); (case hr => first | (go_simp; done) | (go_simp; rfl)); intro gb1178 hg w20 hbox hb; have BK1178 := Aside0.mk (hbox); have GW1178 := geS hg; have GE1178 := geS hg; have NB1176_1178 := neS gb1176 hg; have NB1178_1176 := neT gb1176 hg; replace BK1176 := kb gb1176 hb; replace HO_4 := rb HO_4 hb; replace HB := bst hb; clear hb hbox hg; have := NB1178_1176.out; have := NB1176_1178.out; obtain ⟨_, _, _, _, _, _, _, _⟩ := cells4 BK1178.out) | (go_at_call 97; (with_reducible refine (whirligigref01_Right.calls k1 ((rd_T116 l0_0 x10_1).f1.f0) ((rd_T116 l0_0 x10_1).f1.f1) ((rd_T116 l0_0 x10_1).f1.f2) false _ A11.out).mono ?_); rintro e w23 ⟨rfl, hb⟩; have n0_ := Aside0.mk (Kd.R_below (by (with_reducible repeat (first | apply Kd.R_alloc | apply Kd.R_drewN | apply Kd.R_drew)); exact (Kd.R_mono (Kd.R_far (p := ⟨gb1178, 3, none⟩) (Kd.R_far (p := ⟨gb1178, 2, none⟩) (Kd.R_far (p := ⟨gb1178, 1, none⟩) (Kd.R_far (p := ⟨gb1178, 0, none⟩) (Kd.R_types HO_4.out BK1178.out (by decide)) (fun _ hk => hk.2) (.string ((rd_T116 l0_0 x10_1).f0))) (fun _ hk => hk.2) (.int .i64 ((rd_T116 l0_0 x10_1).f1.f0))) (fun _ hk => hk.2) (.int .i64 ((rd_T116 l0_0 x10_1).f1.f1))) (fun _ hk => hk.2) (.string ((rd_T116 l0_0 x10_1).f1.f2))) (fun _ h_ => h_.1))) hb); have n1_ := kb gb1176 hb; have n2_ := kp gb1178 (.cells #[.string ((rd_T116 l0_0 x10_1).f0), .int .i64 ((rd_T116 l0_0 x10_1).f1.f0), .int .i64 ((rd_T116 l0_0 x10_1).f1.f1), .string ((rd_T116 l0_0 x10_1).f1.f2)] 116 (0, 0)) hb; have n3_ := bst hb; clear HO_4; clear BK1176; clear BK1178; clear HB; have HO_4 := n0_; have BK1176 := n1_; have BK1178 := n2_; have HB := n3_; clear n0_ n1_ n2_ n3_; (try clear hb)))
      repeat (go_quiet (first | ((with_reducible refine gate_dst (N := 6) rfl ?_); (try (refine gate_guard (by rfl) ?_; dsimp only)); refine box_event ?hg (N := 6) ?hd (cs := #[.string (⟨#[]⟩ : ByteArray), .int .i64 0, .int .i64 0, .string (⟨#[]⟩ : ByteArray)]) (t := 116) ?hr ?_; (case hd => rfl); (case hg => rfl); (case hr => first | (go_simp; done) | (go_simp; rfl)); intro gb1178 hg w20 hbox hb; have BK1178 := Aside0.mk (hbox); have GW1178 := geS hg; have GE1178 := geS hg; have NB1176_1178 := neS gb1176 hg; have NB1178_1176 := neT gb1176 hg; replace BK1176 := kb gb1176 hb; replace HO_4 := rb HO_4 hb; replace HB := bst hb; clear hb hbox hg; have := NB1178_1176.out; have := NB1176_1178.out; obtain ⟨_, _, _, _, _, _, _, _⟩ := cells4 BK1178.out) | (go_at_call 97; (with_reducible refine (whirligigref01_Right.calls k1 ((rd_T116 l0_0 x10_1).f1.f0) ((rd_T116 l0_0 x10_1).f1.f1) ((rd_T116 l0_0 x10_1).f1.f2) false _ A11.out).mono ?_); rintro e w23 ⟨rfl, hb⟩; have n0_ := Aside0.mk (Kd.R_below (by (with_reducible repeat (first | apply Kd.R_alloc | apply Kd.R_drewN | apply Kd.R_drew)); exact (Kd.R_mono (Kd.R_far (p := ⟨gb1178, 3, none⟩) (Kd.R_far (p := ⟨gb1178, 2, none⟩) (Kd.R_far (p := ⟨gb1178, 1, none⟩) (Kd.R_far (p := ⟨gb1178, 0, none⟩) (Kd.R_types HO_4.out BK1178.out (by decide)) (fun _ hk => hk.2) (.string ((rd_T116 l0_0 x10_1).f0))) (fun _ hk => hk.2) (.int .i64 ((rd_T116 l0_0 x10_1).f1.f0))) (fun _ hk => hk.2) (.int .i64 ((rd_T116 l0_0 x10_1).f1.f1))) (fun _ hk => hk.2) (.string ((rd_T116 l0_0 x10_1).f1.f2))) (fun _ h_ => h_.1))) hb); have n1_ := kb gb1176 hb; have n2_ := kp gb1178 (.cells #[.string ((rd_T116 l0_0 x10_1).f0), .int .i64 ((rd_T116 l0_0 x10_1).f1.f0), .int .i64 ((rd_T116 l0_0 x10_1).f1.f1), .string ((rd_T116 l0_0 x10_1).f1.f2)] 116 (0, 0)) hb; have n3_ := bst hb; clear HO_4; clear BK1176; clear BK1178; clear HB; have HO_4 := n0_; have BK1176 := n1_; have BK1178 := n2_; have HB := n3_; clear n0_ n1_ n2_ n3_; (try clear hb))); try go_wp2_with (first | ((with_reducible refine gate_dst (N := 6) rfl ?_); (try (refine gate_guard (by rfl) ?_; dsimp only)); refine box_event ?hg (N := 6) ?hd (cs := #[.string (⟨#[]⟩ : ByteArray), .int .i64 0, .int .i64 0, .string (⟨#[]⟩ : ByteArray)]) (t := 116) ?hr ?_; (case hd => rfl); (case hg => rfl); (case hr => first | (go_simp; done) | (go_simp; rfl)); intro gb1178 hg w20 hbox hb; have BK1178 := Aside0.mk (hbox); have GW1178 := geS hg; have GE1178 := geS hg; have NB1176_1178 := neS gb1176 hg; have NB1178_1176 := neT gb1176 hg; replace BK1176 := kb gb1176 hb; replace HO_4 := rb HO_4 hb; replace HB := bst hb; clear hb hbox hg; have := NB1178_1176.out; have := NB1176_1178.out; obtain ⟨_, _, _, _, _, _, _, _⟩ := cells4 BK1178.out) | (go_at_call 97; (with_reducible refine (whirligigref01_Right.calls k1 ((rd_T116 l0_0 x10_1).f1.f0) ((rd_T116 l0_0 x10_1).f1.f1) ((rd_T116 l0_0 x10_1).f1.f2) false _ A11.out).mono ?_); rintro e w23 ⟨rfl, hb⟩; have n0_ := Aside0.mk (Kd.R_below (by (with_reducible repeat (first | apply Kd.R_alloc | apply Kd.R_drewN | apply Kd.R_drew)); exact (Kd.R_mono (Kd.R_far (p := ⟨gb1178, 3, none⟩) (Kd.R_far (p := ⟨gb1178, 2, none⟩) (Kd.R_far (p := ⟨gb1178, 1, none⟩) (Kd.R_far (p := ⟨gb1178, 0, none⟩) (Kd.R_types HO_4.out BK1178.out (by decide)) (fun _ hk => hk.2) (.string ((rd_T116 l0_0 x10_1).f0))) (fun _ hk => hk.2) (.int .i64 ((rd_T116 l0_0 x10_1).f1.f0))) (fun _ hk => hk.2) (.int .i64 ((rd_T116 l0_0 x10_1).f1.f1))) (fun _ hk => hk.2) (.string ((rd_T116 l0_0 x10_1).f1.f2))) (fun _ h_ => h_.1))) hb); have n1_ := kb gb1176 hb; have n2_ := kp gb1178 (.cells #[.string ((rd_T116 l0_0 x10_1).f0), .int .i64 ((rd_T116 l0_0 x10_1).f1.f0), .int .i64 ((rd_T116 l0_0 x10_1).f1.f1), .string ((rd_T116 l0_0 x10_1).f1.f2)] 116 (0, 0)) hb; have n3_ := bst hb; clear HO_4; clear BK1176; clear BK1178; clear HB; have HO_4 := n0_; have BK1176 := n1_; have BK1178 := n2_; have HB := n3_; clear n0_ n1_ n2_ n3_; (try clear hb))))
      go_ret2; exact ⟨_, qR, by first | exact Kd.R_nil _ _ _ _ _ | exact Kd.N_nil _ _ _ _ _ | exact Kd.V_nil _ _ _ _ _ | exact Kd.Q_nil _ _ _ _ _ | exact Kd.S_nil _ _ _ _ _, qB⟩
     exact absurd H (by simp)
    rw [if_neg c5] at H
    exact absurd H (by simp)
   by_cases c24 : (l0_0.length : Int) ≤ 100
   ·rw [if_pos c24] at H
    have c24b0 := decide_eq_true c24
    have c24b1 : decide (l0_0.length ≤ 100) = true := decide_eq_true (by omega)
    clear c24
    simp only [Option.some.injEq, Prod.mk.injEq] at H
    obtain ⟨rfl, rfl⟩ := H
    obtain ⟨_, _, _, _⟩ := cells2 BK1176.out
    go_wp2
    repeat (go_quiet (fail); try go_wp2)
    go_ret2
    exact ⟨_, qR, by (with_reducible repeat (first | apply Kd.R_alloc | apply Kd.R_drewN | apply Kd.R_drew)); exact HO_4.out, qB⟩
   rw [if_neg c24] at H
   have c24b0 := decide_eq_false c24
   have c24b1 : decide (l0_0.length ≤ 100) = false := decide_eq_false (by omega)
   clear c24
   simp only [Option.some.injEq, Prod.mk.injEq] at H
   obtain ⟨rfl, rfl⟩ := H
   obtain ⟨_, _, _, _⟩ := cells2 BK1176.out
   go_wp2
   repeat (go_quiet (fail); try go_wp2)
   go_ret2
   exact ⟨_, qR, by (with_reducible repeat (first | apply Kd.R_alloc | apply Kd.R_drewN | apply Kd.R_drew)); exact HO_4.out, qB⟩
end Go.Proofs.YtbngfhlciebeeaaDoor.L
end
section
namespace Go.Proofs.YtbngfhlciebeeaaDoor.Sp
set_option linter.unusedVariables false
set_option linter.unusedSimpArgs false
open Go.RowKit Go.Proofs.YtbngfhlciebeeaaDoorW.PrintWords Go.Proofs.YtbngfhlciebeeaaDoorW.PrintMore Go.Proofs.YtbngfhlciebeeaaDoor.L
theorem anchor05_ev : Ev (fun k => whirligiglaw05_anchor.f k) true := ⟨100, fun k hk => by
  obtain ⟨j, rfl⟩ : ∃ j, k = j + 100 := ⟨k - 100, by omega⟩
  kernel_rfl⟩
def c166 (x : S116) : S166 := ⟨x.f0, ⟨x.f1.f0, x.f1.f1, x.f1.f2⟩⟩
theorem rd116 {l : List S116} {j : Nat} (h : j < l.length) : rd_T116 l (j : Int) = l[j] := by
  unfold rd_T116
  rw [Int.toNat_natCast, List.getD_eq_getElem?_getD, List.getElem?_eq_getElem h]
  rfl
theorem nil_is {s : ByteArray} : s.toList = ([] : List UInt8) ↔ s = ⟨#[]⟩ :=
  ⟨fun h => toL_inj.1 (h.trans nil_toList.symm), fun h => by rw [h, nil_toList]⟩
theorem rRight_ev (v : S103) (hs : v.f2.size ≤ 100) : ∃ b, Ev (fun k => whirligigref01_Right.f k v.f0 v.f1 v.f2) b ∧ (b = true → ValOk v) := by
  unfold whirligigref01_Right.f
  by_cases h3 : v.f0 = 3
  · by_cases h0 : v.f1 = 0
    · by_cases hl : v.f2.size ≤ 48
      · refine ⟨_, Ev.pos h3 (Ev.pos h0 (Ev.bind (rplain_ev v.f2 hl) (Ev.some rfl))), fun h => Or.inr (Or.inr ⟨h3, h0, ?_⟩)⟩
        unfold PlainS
        rw [h, decide_eq_true hl]; rfl
      · refine ⟨false, Ev.pos h3 (Ev.pos h0 (Ev.bind (a := false) ?_ (Ev.some rfl))), fun h => by cases h⟩
        unfold whirligigref01_Plain.f
        exact Ev.pos (by omega) (Ev.some rfl)
    · exact ⟨false, Ev.pos h3 (Ev.neg h0 (Ev.some rfl)), fun h => by cases h⟩
  · by_cases hn : v.f2.toList = ([] : List UInt8)
    · by_cases h1 : v.f0 = 1
      · exact ⟨true, Ev.neg h3 (Ev.pos hn (Ev.pos h1 (Ev.some rfl))), fun _ => Or.inl ⟨h1, nil_is.1 hn⟩⟩
      · by_cases h2 : v.f0 = 2
        · by_cases h0 : v.f1 = 0
          · exact ⟨true, Ev.neg h3 (Ev.pos hn (Ev.neg h1 (Ev.pos h2 (Ev.pos h0 (Ev.some rfl))))), fun _ => Or.inr (Or.inl ⟨h2, Or.inl h0, nil_is.1 hn⟩)⟩
          · exact ⟨_, Ev.neg h3 (Ev.pos hn (Ev.neg h1 (Ev.pos h2 (Ev.neg h0 (Ev.some rfl))))), fun h => Or.inr (Or.inl ⟨h2, Or.inr (by simpa using h), nil_is.1 hn⟩)⟩
        · exact ⟨false, Ev.neg h3 (Ev.pos hn (Ev.neg h1 (Ev.neg h2 (Ev.some rfl)))), fun h => by cases h⟩
    · exact ⟨false, Ev.neg h3 (Ev.neg hn (Ev.some rfl)), fun h => by cases h⟩
theorem cells05_l0 (l : List S116) (ss : List ByteArray) (hl : l.length * 48 ≤ 140737488351232) : ∀ (d j : Nat), j ≤ l.length → l.length - j = d → (∀ x ∈ l.take j, ValOk x.f1) →
    ∃ r, Ev (fun k => whirligiglaw05_cells.l0 k ((l.take j).map c166) l (l.length : Int) (j : Int) l ss) r ∧ (r.2 = true → r.1 = l.map c166 ∧ l.length ≤ 100 ∧ ss.length ≤ 100 ∧ ∀ x ∈ l, ValOk x.f1) := by
  intro d
  induction d with
  | zero =>
    intro j hj hd hx
    rw [List.take_of_length_le (by omega)] at hx ⊢
    by_cases g : (l.length : Int) ≤ 100
    · refine ⟨(l.map c166, decide ((ss.length : Int) ≤ 100)), Ev.succ ?_, fun h => ⟨rfl, by omega, by have := of_decide_eq_true h; omega, hx⟩⟩
      simp only [whirligiglaw05_cells.l0]
      exact Ev.neg (by omega) (Ev.pos g (Ev.some rfl))
    · refine ⟨(l.map c166, false), Ev.succ ?_, fun h => by cases h⟩
      simp only [whirligiglaw05_cells.l0]
      exact Ev.neg (by omega) (Ev.neg g (Ev.some rfl))
  | succ d ih =>
    intro j hj hd hx
    have hjl : j < l.length := by omega
    by_cases g1 : (l[j].f1.f2.size : Int) > 100
    · refine ⟨([], false), Ev.succ ?_, fun h => by cases h⟩
      simp only [whirligiglaw05_cells.l0]
      rw [rd116 hjl]
      exact Ev.pos (by omega) (Ev.pos (by omega) (Ev.pos (by omega) (Ev.pos g1 (Ev.some rfl))))
    obtain ⟨b, hb, hb'⟩ := rRight_ev l[j].f1 (by omega)
    cases b with
    | false =>
      refine ⟨([], false), Ev.succ ?_, fun h => by cases h⟩
      simp only [whirligiglaw05_cells.l0]
      rw [rd116 hjl]
      exact Ev.pos (by omega) (Ev.pos (by omega) (Ev.pos (by omega) (Ev.neg g1 (Ev.bind hb (Ev.neg (by decide) (Ev.some rfl))))))
    | true =>
      obtain ⟨r, hr, hi⟩ := ih (j + 1) (by omega) (by omega) (fun x hm => by
        rw [List.take_add_one, List.getElem?_eq_getElem hjl] at hm
        rcases List.mem_append.1 hm with hm | hm
        · exact hx x hm
        · obtain rfl : x = l[j] := by simpa using hm
          exact hb' rfl)
      rw [List.take_add_one, List.getElem?_eq_getElem hjl, List.map_append] at hr
      refine ⟨r, Ev.succ ?_, hi⟩
      simp only [whirligiglaw05_cells.l0]
      rw [rd116 hjl, up1 (by omega)]
      exact Ev.pos (by omega) (Ev.pos (by omega) (Ev.pos (by omega) (Ev.neg g1 (Ev.bind hb (Ev.pos rfl (Ev.pos (by rw [List.length_map, List.length_take]; omega) hr))))))
theorem cells05_is (l : List S116) (ss : List ByteArray) (hl : l.length * 48 ≤ 140737488351232) : ∃ r, Ev (fun k => whirligiglaw05_cells.f k l ss) r ∧ (r.2 = true → r.1 = l.map c166 ∧ l.length ≤ 100 ∧ ss.length ≤ 100 ∧ ∀ x ∈ l, ValOk x.f1) := by
  obtain ⟨r, h, h'⟩ := cells05_l0 l ss hl l.length 0 (by omega) (by omega) (by simp)
  refine ⟨r, ?_, h'⟩
  unfold whirligiglaw05_cells.f
  exact h
end Go.Proofs.YtbngfhlciebeeaaDoor.Sp
end
section
namespace Go.Proofs.YtbngfhlciebeeaaDoor.L
open Go.RowKit Go.Proofs.YtbngfhlciebeeaaDoorW.PrintWords Go.Proofs.YtbngfhlciebeeaaDoorW.PrintLast Go.Proofs.YtbngfhlciebeeaaDoorW.PrintMore
attribute [local go_sem] max2_int min2_int max_two min_two max_three min_three max_four min_four   -- for this text's walks alone
set_option linter.unusedVariables false
set_option linter.unusedSimpArgs false
theorem eqA106 (d : Nat) (w : World) (x0 y0 : Int) (x1 y1 : Int) (x2 y2 : ByteArray) :
    (Op.equalIn (d + 2) 106 (.agg #[.int .i64 x0, .int .i64 x1, .string x2]) (.agg #[.int .i64 y0, .int .i64 y1, .string y2])).run Tryd.prog w = .ok (x0 == y0 && (x1 == y1 && (x2.toList == y2.toList))) w := by
  refine eqA_of Tryd.underlying106 (by kernel_rfl) ?_
  refine eqf_cons (by rfl) (by go_simp; rfl) (by go_simp; rfl) (by go_simp) ?_
  refine eqf_cons (by rfl) (by go_simp; rfl) (by go_simp; rfl) (by go_simp) ?_
  exact eqf_last (by rfl) (by go_simp; rfl) (by go_simp; rfl) (by go_simp)
def whirligigref01_truth.f (a0 : Bool) : Option (Int × Int × ByteArray × Int) := if a0 = true then (some (2, 1, (⟨#[]⟩ : ByteArray), 0)) else (some (2, 0, (⟨#[]⟩ : ByteArray), 0))
def whirligigref01_sum.f (a0 : Int) (a1 : Int) : Option (Int × Int × ByteArray × Int) := if a1 > 0 then (if a0 > (wrap64 (9223372036854775807 - a1)) then (some (0, 0, (⟨#[]⟩ : ByteArray), 21)) else (if a1 < 0 then (if a0 < (wrap64 ((-9223372036854775808) - a1)) then (some (0, 0, (⟨#[]⟩ : ByteArray), 21)) else (some (1, wrap64 (a0 + a1), (⟨#[]⟩ : ByteArray), 0))) else (some (1, wrap64 (a0 + a1), (⟨#[]⟩ : ByteArray), 0)))) else (if a1 < 0 then (if a0 < (wrap64 ((-9223372036854775808) - a1)) then (some (0, 0, (⟨#[]⟩ : ByteArray), 21)) else (some (1, wrap64 (a0 + a1), (⟨#[]⟩ : ByteArray), 0))) else (some (1, wrap64 (a0 + a1), (⟨#[]⟩ : ByteArray), 0)))
def whirligigref01_less.f (a0 : Int) (a1 : Int) : Option (Int × Int × ByteArray × Int) := if a1 = (-9223372036854775808) then (if a0 ≥ 0 then (some (0, 0, (⟨#[]⟩ : ByteArray), 21)) else (some (1, wrap64 (a0 - a1), (⟨#[]⟩ : ByteArray), 0))) else ((whirligigref01_sum.f a0 (wrap64 (-a1))).bind fun bt1186 => (some (bt1186.1, bt1186.2.1, bt1186.2.2.1, bt1186.2.2.2)))
mutual
def whirligigref01_product.l0 : Nat → Int → Int → Int → Option (Int × Int × ByteArray)
 | 0, _, _, _ => none
 | k + 1, x0, x1, x5 => if x1 = 0 then (some (1, x5, (⟨#[]⟩ : ByteArray))) else (if (Int.tmod x1 2) = 0 then (whirligigref01_product.j1 k x0 x1 x5) else (if x5 < (wrap64 ((-9223372036854775808) - x0)) then (some (0, 0, (⟨#[]⟩ : ByteArray))) else (whirligigref01_product.j1 k x0 x1 (wrap64 (x5 + x0)))))
def whirligigref01_product.j1 : Nat → Int → Int → Int → Option (Int × Int × ByteArray)
 | 0, _, _, _ => none
 | k + 1, x0, x1, x5 => if (wrap64 (Int.tdiv x1 2)) = 0 then (whirligigref01_product.l0 k x0 (wrap64 (Int.tdiv x1 2)) x5) else (if x0 < (-4611686018427387904) then (some (0, 0, (⟨#[]⟩ : ByteArray))) else (whirligigref01_product.l0 k (wrap64 (2 * x0)) (wrap64 (Int.tdiv x1 2)) x5))
end
def whirligigref01_product.f (k : Nat) (a0 : Int) (a1 : Int) : Option (Int × Int × ByteArray) := whirligigref01_product.l0 k a0 a1 0
mutual
def whirligigref01_times.j0 : Nat → Int → Int → Int → Int → Option (Int × Int × ByteArray × Int)
 | 0, _, _, _, _ => none
 | k + 1, x0, x1, x6, x7 => if x1 = (-9223372036854775808) then (whirligigref01_times.j1 k x0 x1 x6 x1) else (whirligigref01_times.j1 k x0 x1 x6 x7)
def whirligigref01_times.j1 : Nat → Int → Int → Int → Int → Option (Int × Int × ByteArray × Int)
 | 0, _, _, _, _ => none
 | k + 1, x0, x1, x6, x7 => if x6 = 0 then (whirligigref01_times.j2 k x0 x1 x6 x7 false) else (if (wrap64 (-(mx x6 (-9223372036854775807)))) = 0 then (none) else (whirligigref01_times.j2 k x0 x1 x6 x7 (decide (x7 < (wrap64 ((wrap64 (Int.tdiv (-9223372036854775807) (wrap64 (-(mx x6 (-9223372036854775807)))))) - 1))))))
def whirligigref01_times.j2 : Nat → Int → Int → Int → Int → Bool → Option (Int × Int × ByteArray × Int)
 | 0, _, _, _, _, _ => none
 | k + 1, x0, x1, x6, x7, x33 => if x33 = true then (some (0, 0, (⟨#[]⟩ : ByteArray), 21)) else ((whirligigref01_product.f k x6 x7).bind fun bt1192 => (if bt1192.2.1 > 0 then (whirligigref01_times.j3 k x0 x1 true bt1192.1 bt1192.2.1 bt1192.2.2) else (whirligigref01_times.j3 k x0 x1 (bt1192.1 == 0) bt1192.1 bt1192.2.1 bt1192.2.2)))
def whirligigref01_times.j3 : Nat → Int → Int → Bool → Int → Int → ByteArray → Option (Int × Int × ByteArray × Int)
 | 0, _, _, _, _, _, _ => none
 | k + 1, x0, x1, x45, x1196000, x1196001, x1196002 => if x45 = true then (some (0, 0, (⟨#[]⟩ : ByteArray), 21)) else (if ((decide (x0 < 0)) == (decide (x1 < 0))) = true then (if x1196001 = (-9223372036854775808) then (some (0, 0, (⟨#[]⟩ : ByteArray), 21)) else (some (x1196000, wrap64 (-x1196001), x1196002, 0))) else (some (x1196000, x1196001, x1196002, 0)))
end
def whirligigref01_times.f (k : Nat) (a0 : Int) (a1 : Int) : Option (Int × Int × ByteArray × Int) := if a0 = (-9223372036854775808) then (whirligigref01_times.j0 k a0 a1 a0 (mn a1 (wrap64 (-a1)))) else (whirligigref01_times.j0 k a0 a1 (mn a0 (wrap64 (-a0))) (mn a1 (wrap64 (-a1))))
def whirligigref01_divide.j0 : Nat → Int → Int → Bool → Bool → Option (Int × Int × ByteArray × Int)
 | 0, _, _, _, _ => none
 | k + 1, x0, x1, x2, x16 => if x16 = true then (if x2 = true then (some (1, 0, (⟨#[]⟩ : ByteArray), 0)) else (some (0, 0, (⟨#[]⟩ : ByteArray), 21))) else (if x2 = true then (if x1 = 0 then (none) else (some (1, wrap64 (x0 - (wrap64 ((wrap64 (Int.tdiv x0 x1)) * x1))), (⟨#[]⟩ : ByteArray), 0))) else (if x1 = 0 then (none) else (some (1, wrap64 (Int.tdiv x0 x1), (⟨#[]⟩ : ByteArray), 0))))
def whirligigref01_divide.f (k : Nat) (a0 : Int) (a1 : Int) (a2 : Bool) : Option (Int × Int × ByteArray × Int) := if a1 = 0 then (some (0, 0, (⟨#[]⟩ : ByteArray), 22)) else (if a0 = (-9223372036854775808) then (whirligigref01_divide.j0 k a0 a1 a2 (a1 == (-1))) else (whirligigref01_divide.j0 k a0 a1 a2 false))
mutual
def whirligigref01_before.l0 : Nat → Int → Int → Int → ByteArray → Int → Int → ByteArray → Option (Bool)
 | 0, _, _, _, _, _, _, _ => none
 | k + 1, x5, x1198000, x1198001, x1198002, x1199000, x1199001, x1199002 => if x5 < (x1198002.size : Int) then (whirligigref01_before.j1 k x5 (decide (x5 < (x1199002.size : Int))) x1198000 x1198001 x1198002 x1199000 x1199001 x1199002) else (whirligigref01_before.j1 k x5 false x1198000 x1198001 x1198002 x1199000 x1199001 x1199002)
def whirligigref01_before.j1 : Nat → Int → Bool → Int → Int → ByteArray → Int → Int → ByteArray → Option (Bool)
 | 0, _, _, _, _, _, _, _, _ => none
 | k + 1, x5, x25, x1198000, x1198001, x1198002, x1199000, x1199001, x1199002 => if x25 = true then (if 0 ≤ x5 then (if x5 < (x1198002.size : Int) then (if x5 < (x1199002.size : Int) then (if (bt x1198002 x5) = (bt x1199002 x5) then (whirligigref01_before.l0 k (wrap64 (x5 + 1)) x1198000 x1198001 x1198002 x1199000 x1199001 x1199002) else (some (decide ((bt x1198002 x5) < (bt x1199002 x5))))) else (none)) else (none)) else (none)) else (some (decide ((x1198002.size : Int) < (x1199002.size : Int))))
end
def whirligigref01_before.f (k : Nat) (a0_0 : Int) (a0_1 : Int) (a0_2 : ByteArray) (a1_0 : Int) (a1_1 : Int) (a1_2 : ByteArray) : Option (Bool) := if a0_0 = 3 then (whirligigref01_before.l0 k 0 a0_0 a0_1 a0_2 a1_0 a1_1 a1_2) else (some (decide (a0_1 < a1_1)))
end Go.Proofs.YtbngfhlciebeeaaDoor.L
end
section
namespace Go.Proofs.YtbngfhlciebeeaaDoor.L
open Go.RowKit Go.Proofs.YtbngfhlciebeeaaDoorW.PrintWords Go.Proofs.YtbngfhlciebeeaaDoorW.PrintLast Go.Proofs.YtbngfhlciebeeaaDoorW.PrintMore
attribute [local go_sem] max2_int min2_int max_two min_two max_three min_three max_four min_four   -- for this text's walks alone
set_option linter.unusedVariables false
set_option linter.unusedSimpArgs false
attribute [local go_sem high] eqA106
def whirligigref01_Reckon.j0 : Nat → Int → Int → Bool → Int → Int → ByteArray → Int → Int → ByteArray → Option (Int × Int × ByteArray × Int)
 | 0, _, _, _, _, _, _, _, _, _ => none
 | k + 1, x0, x8, x33, x1200000, x1200001, x1200002, x1201000, x1201001, x1201002 => if x33 = true then ((whirligigref01_divide.f k x1200001 x1201001 (x0 == 5)).bind fun bt1214 => (some (bt1214.1, bt1214.2.1, bt1214.2.2.1, bt1214.2.2.2))) else (if x8 = 7 then ((whirligigref01_less.f x1200001 x1201001).bind fun bt1218 => (some (bt1218.1, bt1218.2.1, bt1218.2.2.1, bt1218.2.2.2))) else (if x8 = 8 then ((whirligigref01_before.f k x1200000 x1200001 x1200002 x1201000 x1201001 x1201002).bind fun t1222 => ((whirligigref01_truth.f t1222).bind fun bt1223 => (some (bt1223.1, bt1223.2.1, bt1223.2.2.1, bt1223.2.2.2)))) else (if x8 = 9 then ((whirligigref01_before.f k x1201000 x1201001 x1201002 x1200000 x1200001 x1200002).bind fun t1227 => ((whirligigref01_truth.f (!t1227)).bind fun bt1228 => (some (bt1228.1, bt1228.2.1, bt1228.2.2.1, bt1228.2.2.2)))) else (if x8 = 10 then ((whirligigref01_before.f k x1201000 x1201001 x1201002 x1200000 x1200001 x1200002).bind fun t1232 => ((whirligigref01_truth.f t1232).bind fun bt1233 => (some (bt1233.1, bt1233.2.1, bt1233.2.2.1, bt1233.2.2.2)))) else (if x8 = 11 then ((whirligigref01_before.f k x1200000 x1200001 x1200002 x1201000 x1201001 x1201002).bind fun t1237 => ((whirligigref01_truth.f (!t1237)).bind fun bt1238 => (some (bt1238.1, bt1238.2.1, bt1238.2.2.1, bt1238.2.2.2)))) else (if x8 = 12 then ((whirligigref01_truth.f (x1200000 == x1201000 && (x1200001 == x1201001 && (x1200002.toList == x1201002.toList)))).bind fun bt1242 => (some (bt1242.1, bt1242.2.1, bt1242.2.2.1, bt1242.2.2.2))) else (if x8 = 13 then ((whirligigref01_truth.f (!(x1200000 == x1201000) || (!(x1200001 == x1201001) || (!(x1200002.toList == x1201002.toList))))).bind fun bt1246 => (some (bt1246.1, bt1246.2.1, bt1246.2.2.1, bt1246.2.2.2))) else (if x8 = 14 then (if x1200001 = 1 then ((whirligigref01_truth.f (x1201001 == 1)).bind fun bt1250 => (some (bt1250.1, bt1250.2.1, bt1250.2.2.1, bt1250.2.2.2))) else ((whirligigref01_truth.f false).bind fun bt1254 => (some (bt1254.1, bt1254.2.1, bt1254.2.2.1, bt1254.2.2.2)))) else (if x8 = 15 then (if x1200001 = 1 then ((whirligigref01_truth.f true).bind fun bt1258 => (some (bt1258.1, bt1258.2.1, bt1258.2.2.1, bt1258.2.2.2))) else ((whirligigref01_truth.f (x1201001 == 1)).bind fun bt1262 => (some (bt1262.1, bt1262.2.1, bt1262.2.2.1, bt1262.2.2.2)))) else (if x1200000 = 1 then ((whirligigref01_sum.f x1200001 x1201001).bind fun bt1266 => (some (bt1266.1, bt1266.2.1, bt1266.2.2.1, bt1266.2.2.2))) else (if (wrap64 ((x1200002.size : Int) + (x1201002.size : Int))) > 48 then (some (0, 0, (⟨#[]⟩ : ByteArray), 15)) else (if x1200002.size + x1201002.size ≤ 9223372036854775807 then (some (3, 0, x1200002 ++ x1201002, 0)) else (none)))))))))))))
def whirligigref01_Reckon.f (k : Nat) (a0 : Int) (a1_0 : Int) (a1_1 : Int) (a1_2 : ByteArray) (a2_0 : Int) (a2_1 : Int) (a2_2 : ByteArray) : Option (Int × Int × ByteArray × Int) := if a0 = 1 then ((whirligigref01_truth.f (a1_1 == 0)).bind fun bt1202 => (some (bt1202.1, bt1202.2.1, bt1202.2.2.1, bt1202.2.2.2))) else (if a0 = 2 then ((whirligigref01_less.f 0 a1_1).bind fun bt1206 => (some (bt1206.1, bt1206.2.1, bt1206.2.2.1, bt1206.2.2.2))) else (if a0 = 3 then ((whirligigref01_times.f k a1_1 a2_1).bind fun bt1210 => (some (bt1210.1, bt1210.2.1, bt1210.2.2.1, bt1210.2.2.2))) else (if a0 = 4 then (whirligigref01_Reckon.j0 k a0 a0 (a0 == 4) a1_0 a1_1 a1_2 a2_0 a2_1 a2_2) else (whirligigref01_Reckon.j0 k a0 a0 (a0 == 5) a1_0 a1_1 a1_2 a2_0 a2_1 a2_2))))
end Go.Proofs.YtbngfhlciebeeaaDoor.L
end
