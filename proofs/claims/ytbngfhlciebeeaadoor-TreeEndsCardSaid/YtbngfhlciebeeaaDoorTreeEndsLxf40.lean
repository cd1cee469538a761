/- Printed and hand-written steps towards the row (TreeEnds), those that it reaches. -/
import Derived.Test.YtbngfhlciebeeaaDoorTreeEndsG5
import Derived.Test.YtbngfhlciebeeaaDoorTreeEndsG6
import Derived.Test.YtbngfhlciebeeaaDoorTreeEndsG19
import Derived.Test.YtbngfhlciebeeaaDoorTreeEndsGCopy
namespace Go.Proofs.YtbngfhlciebeeaaDoor.L
open Go.RowKit Go.Proofs.YtbngfhlciebeeaaDoorW.PrintWords Go.Proofs.YtbngfhlciebeeaaDoorW.PrintLast Go.Proofs.YtbngfhlciebeeaaDoorW.PrintMore
attribute [local go_sem] max2_int min2_int max_two min_two max_three min_three max_four min_four   -- for this text's walks alone
set_option linter.unusedVariables false
set_option linter.unusedSimpArgs false
def tree_Tree_Grow.f (l0 : List (S43)) (a1 : Int) : Option ((List (S43)) × Int) := (tree_Tree_has.f l0 a1).bind fun t367 => (if t367 = true then (if 0 ≤ a1 then (if a1 < (l0.length : Int) then (if ((rd_T43 l0 a1).f2) ≥ 512 then ((tree_Tree_Copy.f l0).bind fun t369 => (some (t369, 41))) else ((tree_Tree_Copy.f l0).bind fun t372 => (if a1 < (t372.length : Int) then (some ((t372.set (a1 : Int).toNat (⟨(rd_T43 t372 a1).f0, (rd_T43 t372 a1).f1, wrap64 (((rd_T43 t372 a1).f2) + 1), (rd_T43 t372 a1).f3⟩ : S43)), 0)) else (none)))) else (none)) else (none)) else ((tree_Tree_Copy.f l0).bind fun t377 => (some (t377, 12))))
set_option maxHeartbeats 8000000 in
set_option maxRecDepth 100000 in
theorem tree_Tree_Grow.calls (A0 : Option Addr) (c0 : Nat) (l0 : List (S43)) (a1 : Int) (r1 : List (S43)) (r2 : Int) (w : World) (hr0 : Kd.C k43 w A0 l0.length l0) (hc0 : l0.length ≤ c0) (h : tree_Tree_Grow.f l0 a1 = some (r1, r2)) :
  Calls Tryd.prog 40 #[.slice A0 l0.length c0, .int .i64 a1] w fun e w' => ∃ v0_ : Value, e = .returned (.tuple #[v0_, .int .i64 r2]) ∧ Kd.S k43 43 w' w.heap.size (fun _ => True) v0_ r1 ∧ Below w.heap.size w w' := by
 have HR0 := Aside0.mk hr0
 have HC0 := Aside0.mk hc0
 clear hr0 hc0
 have HB := Aside0.mk (Below.refl w.heap.size w)
 have H : ((tree_Tree_has.f l0 a1).bind fun t367 => (if t367 = true then (if 0 ≤ a1 then (if a1 < (l0.length : Int) then (if ((rd_T43 l0 a1).f2) ≥ 512 then ((tree_Tree_Copy.f l0).bind fun t369 => (some (t369, 41))) else ((tree_Tree_Copy.f l0).bind fun t372 => (if a1 < (t372.length : Int) then (some ((t372.set (a1 : Int).toNat (⟨(rd_T43 t372 a1).f0, (rd_T43 t372 a1).f1, wrap64 (((rd_T43 t372 a1).f2) + 1), (rd_T43 t372 a1).f3⟩ : S43)), 0)) else (none)))) else (none)) else (none)) else ((tree_Tree_Copy.f l0).bind fun t377 => (some (t377, 12))))) = some (r1, r2) := h
 clear h
 replace H := Option.bind_eq_some_iff.mp H
 obtain ⟨t367, A30, H⟩ := H
 (try dsimp -simprocs only at H)
 have A3 := Aside0.mk A30
 clear A30
 by_cases c4 : t367 = true
 ·subst c4
  rw [if_pos rfl] at H
  replace H := iD H
  rcases H with ⟨c5b0, H⟩ | ⟨c5b0, H⟩
  ·by_cases c6 : a1 < (l0.length : Int)
   ·rw [if_pos c6] at H
    have c6b0 := decide_eq_true c6
    clear c6
    replace H := iD H
    rcases H with ⟨c7b0, H⟩ | ⟨c7b0, H⟩
    ·replace H := Option.bind_eq_some_iff.mp H
     obtain ⟨t369, A80, H⟩ := H
     (try dsimp -simprocs only at H)
     have A8 := Aside0.mk A80
     clear A80
     simp only [Option.some.injEq, Prod.mk.injEq] at H
     obtain ⟨rfl, rfl⟩ := H
     go_enter Tryd.func40, Tryd.ntmps40
     go_wp2_with (first | ((with_reducible refine gc 80 rfl ?_); refine gl (some 10) #[.slice A0 l0.length c0, .int .i64 a1] Tryd.func80 ?_; (with_reducible refine (tree_Tree_has.calls _ _ l0 a1 true _ ?side1 ?side2 A3.out).mono ?_); (case side1 => repeat (first | exact HR0.out | (with_reducible refine Kd.C_alloc ?_ _) | (with_reducible refine Kd.C_drewN ?_ _) | (with_reducible refine Kd.C_drew ?_))); (case side2 => exact HC0.out); rintro e w' ⟨rfl, ⟨nd, rfl⟩⟩; refine ⟨_, rfl, ?_⟩; have p368 : 0 ≤ (a1 : Int) := qD; have q368 : a1 < (l0.length : Int) := qD; obtain ⟨ad368, A368_3, c368_3, e368, hx368_0, hx368_1, hx368_2, hx368_3, hl368_3, hi368_3⟩ := at_T43 HR0.out a1 p368 q368; cases e368; have HR368_3 := Aside0.mk hi368_3; have HC368_3 := Aside0.mk hl368_3; clear hi368_3 hl368_3; replace p368 := eq_true p368; replace q368 := eq_true q368) | ((with_reducible refine gc 50 rfl ?_); refine gl (some 22) #[.slice (some ad368) l0.length c0] Tryd.func50 ?_; (with_reducible refine (tree_Tree_Copy.calls _ _ l0 t369 _ ?side1 ?side2 A8.out).mono ?_); (case side1 => repeat (first | exact HR0.out | (with_reducible refine Kd.C_alloc ?_ _) | (with_reducible refine Kd.C_drewN ?_ _) | (with_reducible refine Kd.C_drew ?_))); (case side2 => exact HC0.out); rintro e w9 ⟨v370, rfl, ho0, hb⟩; refine ⟨_, rfl, ?_⟩; have HO371 := Aside0.mk (Kd.S_lower ho0 (below_size qB)); replace HB := bst hb; (try clear hb); (try clear ho0)))
     go_ret2
     exact ⟨_, qR, by (with_reducible repeat (first | apply Kd.S_alloc | apply Kd.S_drewN | apply Kd.S_drew)); exact HO371.out, qB⟩
    ·replace H := Option.bind_eq_some_iff.mp H
     obtain ⟨t372, A100, H⟩ := H
     (try dsimp -simprocs only at H)
     have A10 := Aside0.mk A100
     clear A100
     replace H := iD H
     rcases H with ⟨c11b0, H⟩ | ⟨c11b0, H⟩
     ·obtain ⟨y376, hy376⟩ : ∃ y_ : List (S43), y_ = (t372.set (a1 : Int).toNat (⟨(rd_T43 t372 a1).f0, (rd_T43 t372 a1).f1, wrap64 (((rd_T43 t372 a1).f2) + 1), (rd_T43 t372 a1).f3⟩ : S43)) := ⟨_, rfl⟩
      replace H : (some (y376, 0)) = some (r1, r2) := by first | (rw [hy376]; with_reducible exact H) | (have H2_ := (Option.bind_some _ _).symm.trans H; rw [hy376]; with_reducible exact H2_) | (have H2_ := (Option.bind_some _ _).symm.trans H; with_reducible exact H2_) | with_reducible exact H | (rw [hy376]; exact H) | exact H
      have Ny376 := Aside0.mk hy376
      clear hy376
      simp only [Option.some.injEq, Prod.mk.injEq] at H
      obtain ⟨rfl, rfl⟩ := H
      go_enter Tryd.func40, Tryd.ntmps40
      go_wp2_with (first | ((with_reducible refine gc 80 rfl ?_); refine gl (some 10) #[.slice A0 l0.length c0, .int .i64 a1] Tryd.func80 ?_; (with_reducible refine (tree_Tree_has.calls _ _ l0 a1 true _ ?side1 ?side2 A3.out).mono ?_); (case side1 => repeat (first | exact HR0.out | (with_reducible refine Kd.C_alloc ?_ _) | (with_reducible refine Kd.C_drewN ?_ _) | (with_reducible refine Kd.C_drew ?_))); (case side2 => exact HC0.out); rintro e w' ⟨rfl, ⟨nd, rfl⟩⟩; refine ⟨_, rfl, ?_⟩; have p368 : 0 ≤ (a1 : Int) := qD; have q368 : a1 < (l0.length : Int) := qD; obtain ⟨ad368, A368_3, c368_3, e368, hx368_0, hx368_1, hx368_2, hx368_3, hl368_3, hi368_3⟩ := at_T43 HR0.out a1 p368 q368; cases e368; have HR368_3 := Aside0.mk hi368_3; have HC368_3 := Aside0.mk hl368_3; clear hi368_3 hl368_3; replace p368 := eq_true p368; replace q368 := eq_true q368) | ((with_reducible refine gc 50 rfl ?_); refine gl (some 24) #[.slice (some ad368) l0.length c0] Tryd.func50 ?_; (with_reducible refine (tree_Tree_Copy.calls _ _ l0 t372 _ ?side1 ?side2 A10.out).mono ?_); (case side1 => repeat (first | exact HR0.out | (with_reducible refine Kd.C_alloc ?_ _) | (with_reducible refine Kd.C_drewN ?_ _) | (with_reducible refine Kd.C_drew ?_))); (case side2 => exact HC0.out); rintro e w13 ⟨v373, rfl, ho0, hb⟩; refine ⟨_, rfl, ?_⟩; have HO374 := Aside0.mk (Kd.S_lower ho0 (below_size qB)); replace HB := bst hb; (try clear hb); (try clear ho0); obtain ⟨Ao14, co14, eo14⟩ := Kd.S_slice HO374.out; subst eo14; have p375 : 0 ≤ (a1 : Int) := qD; have q375 : a1 < (t372.length : Int) := qD; obtain ⟨ad375, A375_3, c375_3, e375, hx375_0, hx375_1, hx375_2, hx375_3, hl375_3, hi375_3⟩ := at_T43 (Kd.S_reads' HO374.out).2.2 a1 p375 q375; cases e375; obtain ⟨ce375, hce375, hMe375, hcc375⟩ := Kd.S_get HO374.out z43 a1 p375 (by first | exact q375 | exact qD | (have e_ := (Kd.S_reads' HO374.out).1; omega)); obtain ⟨ve375_3, rfl, ge375_3⟩ := k43_openM hMe375; have hv375_3 := hcc375 3 _ rfl; rw [add_field _ _ 3 (by omega)] at hv375_3; replace hv375_3 := Option.some.inj (hv375_3.symm.trans hx375_3); rw [hv375_3] at ge375_3; have HL375_3 := Aside0.mk (show Kd.R k45 45 _ _ _ _ ((rd_T43 t372 a1).f3) from ge375_3); clear hv375_3 ge375_3; clear hcc375 hce375; have HR375_3 := Aside0.mk hi375_3; have HC375_3 := Aside0.mk hl375_3; clear hi375_3 hl375_3; replace p375 := eq_true p375; replace q375 := eq_true q375; have p12 : 0 ≤ (a1 : Int) := qD; have q12 : (a1 : Int) < ((t372.length : Int) : Int) := qD; obtain ⟨go12, co12, eo12, gb12, gl12, cl12, HG12⟩ := Kd.S_form HO374.out (by omega); (first | cases eo12 | (injection eo12 with ea_ en_ ec_; (first | subst ea_ | (injection ea_ with ea_; subst ea_)); subst ec_; clear en_)); have GB12 := Aside0.mk gb12; have GG12 := Aside0.mk HG12; clear gb12 gl12 HG12; (first | simp only [add_plain] at hx375_0 | skip); (first | simp only [add_plain] at hx375_1 | skip); (first | simp only [add_plain] at hx375_2 | skip); (first | simp only [add_plain] at hx375_3 | skip); obtain ⟨_, ce12, hcl12, hM12, hcc12, hfr12, _, _⟩ := Kd.S_elem HO374.out z43 (a1 : Int) p12 q12; obtain ⟨ve12_3, rfl, ge12_3⟩ := k43_openM hM12; have hx12_0 : w13.cell? ⟨go12, (a1 : Int).toNat * 4, none⟩ = some (.int .i64 ((rd_T43 t372 a1).f0)) := hcc12 0 _ rfl; have hx12_1 : w13.cell? ⟨go12, (a1 : Int).toNat * 4 + 1, none⟩ = some (.int .i64 ((rd_T43 t372 a1).f1)) := hcc12 1 _ rfl; have hx12_2 : w13.cell? ⟨go12, (a1 : Int).toNat * 4 + 2, none⟩ = some (.int .i64 ((rd_T43 t372 a1).f2)) := hcc12 2 _ rfl; have hx12_3 : w13.cell? ⟨go12, (a1 : Int).toNat * 4 + 3, none⟩ = some (ve12_3) := hcc12 3 _ rfl; have hf12_0 : w13.frozen? ⟨go12, (a1 : Int).toNat * 4, none⟩ = false := hfr12 0; have hf12_1 : w13.frozen? ⟨go12, (a1 : Int).toNat * 4 + 1, none⟩ = false := hfr12 1; have hf12_2 : w13.frozen? ⟨go12, (a1 : Int).toNat * 4 + 2, none⟩ = false := hfr12 2; have hf12_3 : w13.frozen? ⟨go12, (a1 : Int).toNat * 4 + 3, none⟩ = false := hfr12 3; clear hcl12 hcc12 hfr12 hM12; replace p12 := eq_true p12; replace q12 := eq_true q12; have HX15 := Aside0.mk (show Kd.S k43 43 w13 w.heap.size (fun k_ => ((fun _ => True)) k_ ∧ ¬ ((fun _ => False)) k_) (.slice (some ⟨go12, 0, none⟩) t372.length co14) t372 from (by (with_reducible repeat (first | apply Kd.S_alloc | apply Kd.S_drewN | apply Kd.S_drew)); exact Kd.S_mono HO374.out (fun k_ hk => ⟨trivial, fun e_ => e_⟩))); obtain ⟨oki15, ce15, hcl15, hM15, hcc15, hfr15, hoki15, hH15⟩ := Kd.S_elem HX15.out z43 (a1 : Int) (qD) (by have h_ : (a1 : Int) < ((t372.length : Int) : Int) := qD; first | exact h_ | (have e_ := (Kd.S_reads' HO374.out).1; omega) | simpa using h_); obtain ⟨ve15_3, rfl, ge15_3⟩ := k43_openM hM15; have HP15 := Kd.S_seg hH15 (qD) (by have h_ : (a1 : Int) < ((t372.length : Int) : Int) := qD; first | exact h_ | (have e_ := (Kd.S_reads' HO374.out).1; omega) | simpa using h_) (seg := [.int .i64 (wrap64 (((rd_T43 t372 a1).f2) + 1))]) (j := 2) (show 3 ≤ 4 from by decide) (x' := (⟨(rd_T43 t372 a1).f0, (rd_T43 t372 a1).f1, wrap64 (((rd_T43 t372 a1).f2) + 1), (rd_T43 t372 a1).f3⟩ : S43)) (k43_mkM _ _ _ (⟨(rd_T43 t372 a1).f0, (rd_T43 t372 a1).f1, wrap64 (((rd_T43 t372 a1).f2) + 1), (rd_T43 t372 a1).f3⟩ : S43) (Kd.R_mono ge15_3 (fun _ h_ => Or.inl h_))) (fun _ hk => hk) (fun k_ hk_ => hk_.elim); have hx15_2 := hcc15 2 _ rfl; (try simp only [show (k43).sz = 4 from rfl, Nat.mul_one, Nat.add_zero] at hx15_2); have hf15_2 := hfr15 2; (try simp only [show (k43).sz = 4 from rfl, Nat.mul_one, Nat.add_zero] at hf15_2); clear hcl15 hcc15 hfr15 hM15 hoki15 hH15) | ((with_reducible refine gate_store (t := 3) (p := 32) rfl ?_); refine store_event (t := 3) (p := 32) (v := ?vo_w16) (w1 := (w13.setCell ⟨go12, (a1 : Int).toNat * 4 + 2, none⟩ (.int .i64 (wrap64 (((rd_T43 t372 a1).f2) + 1))))) ?hg ?ho ?hn ?hr ?_; (case ho => rfl); (case hg => rfl); (case hn => rfl); (case hr => first | (go_simp; done) | (go_simp; rfl)); intro w16 hw; have hg : w13.grownBy w16 (some go12) := (by rw [hw]; exact HP15.2); have hp_ : Kd.S k43 43 w16 w.heap.size (fun _ => True) (.slice (some ⟨go12, 0, none⟩) t372.length co14) y376 := (by rw [hw, Ny376.out]; exact HP15.1); clear HP15; have n0_ := Aside0.mk (hp_); have n1_ := Aside0.mk (Kd.R_after (v := (.slice (some ⟨go12, 0, none⟩) t372.length co14)) (v1 := (.slice (some ⟨go12, 0, none⟩) t372.length co14)) (ok := (fun _ => True)) (by (with_reducible repeat (first | apply Kd.R_alloc | apply Kd.R_drewN | apply Kd.R_drew)); exact HL375_3.out) hg (.inl rfl)); have n2_ := Aside0.mk ((by rw [hw]; exact below_set (HB.out) GB12.out : Below w.heap.size w w16)); clear HO374; clear HL375_3; clear HB; have HO374 := n0_; have HL375_3 := n1_; have HB := n2_; clear n0_ n1_ n2_; clear hg hw hp_))
      go_ret2
      exact ⟨_, qR, by (with_reducible repeat (first | apply Kd.S_alloc | apply Kd.S_drewN | apply Kd.S_drew)); exact HO374.out, qB⟩
     ·exact absurd H (by simp)
   ·rw [if_neg c6] at H
    exact absurd H (by simp)
  ·exact absurd H (by simp)
 ·replace c4 := Bool.eq_false_iff.mpr c4
  subst c4
  rw [if_neg (show ¬ (false = true) by decide)] at H
  replace H := Option.bind_eq_some_iff.mp H
  obtain ⟨t377, A170, H⟩ := H
  (try dsimp -simprocs only at H)
  have A17 := Aside0.mk A170
  clear A170
  simp only [Option.some.injEq, Prod.mk.injEq] at H
  obtain ⟨rfl, rfl⟩ := H
  go_enter Tryd.func40, Tryd.ntmps40
  go_wp2_with (first | ((with_reducible refine gc 80 rfl ?_); refine gl (some 10) #[.slice A0 l0.length c0, .int .i64 a1] Tryd.func80 ?_; (with_reducible refine (tree_Tree_has.calls _ _ l0 a1 false _ ?side1 ?side2 A3.out).mono ?_); (case side1 => repeat (first | exact HR0.out | (with_reducible refine Kd.C_alloc ?_ _) | (with_reducible refine Kd.C_drewN ?_ _) | (with_reducible refine Kd.C_drew ?_))); (case side2 => exact HC0.out); rintro e w' ⟨rfl, ⟨nd, rfl⟩⟩; refine ⟨_, rfl, ?_⟩) | ((with_reducible refine gc 50 rfl ?_); refine gl (some 13) #[.slice A0 l0.length c0] Tryd.func50 ?_; (with_reducible refine (tree_Tree_Copy.calls _ _ l0 t377 _ ?side1 ?side2 A17.out).mono ?_); (case side1 => repeat (first | exact HR0.out | (with_reducible refine Kd.C_alloc ?_ _) | (with_reducible refine Kd.C_drewN ?_ _) | (with_reducible refine Kd.C_drew ?_))); (case side2 => exact HC0.out); rintro e w18 ⟨v378, rfl, ho0, hb⟩; refine ⟨_, rfl, ?_⟩; have HO379 := Aside0.mk (Kd.S_lower ho0 (below_size qB)); replace HB := bst hb; (try clear hb); (try clear ho0)))
  go_ret2
  exact ⟨_, qR, by (with_reducible repeat (first | apply Kd.S_alloc | apply Kd.S_drewN | apply Kd.S_drew)); exact HO379.out, qB⟩
end Go.Proofs.YtbngfhlciebeeaaDoor.L
