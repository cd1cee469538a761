/- Printed and hand-written steps towards the row (TreeEnds), those that it reaches. -/
import Derived.Test.YtbngfhlciebeeaaDoorTreeEndsG5
import Derived.Test.YtbngfhlciebeeaaDoorTreeEndsG19
import Derived.Test.YtbngfhlciebeeaaDoorTreeEndsG6
section
namespace Go.Proofs.YtbngfhlciebeeaaDoor.L
set_option linter.unusedVariables false
set_option linter.unusedSimpArgs false
open Go.RowKit Go.Proofs.YtbngfhlciebeeaaDoorW.PrintWords Go.Proofs.YtbngfhlciebeeaaDoorW.PrintLast Go.Proofs.YtbngfhlciebeeaaDoorW.PrintMore
def idxAt (i : Int) (xs : List S45) : Int := match xs.findIdx? (fun x => x.f0 == i) with | some j => (j : Int) | none => -1
theorem idx_hit {i : Int} {xs : List S45} {j : Nat} (hl : j < xs.length) (hno : ∀ x ∈ xs.take j, x.f0 ≠ i) (he : xs[j].f0 = i) : idxAt i xs = (j : Int) := by
  have h : xs.findIdx? (fun x => x.f0 == i) = some j := by
    rw [List.findIdx?_eq_some_iff_getElem]
    refine ⟨hl, by simpa using he, fun k hk => ?_⟩
    have := hno xs[k] (List.mem_take_iff_getElem.2 ⟨k, by omega, rfl⟩)
    simpa using this
  unfold idxAt
  rw [h]
theorem idx_miss {i : Int} {xs : List S45} (hno : ∀ x ∈ xs, x.f0 ≠ i) : idxAt i xs = -1 := by
  have h : xs.findIdx? (fun x => x.f0 == i) = none := by
    rw [List.findIdx?_eq_none_iff]
    intro x hx
    simpa using hno x hx
  unfold idxAt
  rw [h]
set_option maxHeartbeats 8000000 in
set_option maxRecDepth 100000 in
theorem idx_calls (g : Nat) (i : Int) (A : Option Addr) (c : Nat) (xs : List S45) (w : World) (hr : Kd.C k45 w A xs.length xs) (hc : xs.length ≤ c) (hg : w.cell? ⟨g, 0, none⟩ = some (.int .i64 i)) :
    Calls Tryd.prog 82 #[.slice A xs.length c, .func (.func 83) #[] #[.pointer (some ⟨g, 0, none⟩)]] w fun e w' => e = .returned (.int .i64 (idxAt i xs)) ∧ Below w.heap.size w w' := by
  have HR := Aside0.mk hr
  have HG := Aside0.mk hg
  have HN := hr.2.1
  clear hr hg
  go_enter Tryd.func82, Tryd.ntmps82
  go_wp2
  go_loopg [8] xs.length (fun kq v8 w' => ∃ (j : Nat), v8 = .int .i64 (j : Int) ∧ Aside0 (kq = xs.length - j) ∧ Aside0 (j ≤ xs.length) ∧ Aside0 (∀ x ∈ xs.take j, x.f0 ≠ i) ∧ Aside0 (Below w.heap.size w w'))
  case atStart => exact ⟨0, rfl, ⟨rfl⟩, ⟨Nat.zero_le _⟩, ⟨by simp⟩, ⟨Below.refl _ _⟩⟩
  case round =>
    obtain ⟨j, rfl, hk, hj, hno, HB⟩ := hrel
    by_cases hl : j < xs.length
    · have c1 : decide ((j : Int) < (xs.length : Int)) = true := decide_eq_true (by omega)
      obtain ⟨ad, eA, g0, g1, g2, g3⟩ := at_T45 (Kd.C_below HR.out HB.out) (j : Int) (by omega) (by omega)
      subst eA
      rw [Int.toNat_natCast] at g0 g1 g2 g3
      have hcap := pw_cell_below HB.out HG.out
      have ht := Aside0.mk (show rd_T45 xs (j : Int) = xs[j] by
        unfold rd_T45
        rw [Int.toNat_natCast, List.getD_eq_getElem?_getD, List.getElem?_eq_getElem hl]; rfl)
      have hcapA : (wr.alloc (.cells #[.int .i64 (rd_T45 xs (j : Int)).f0, .int .i64 (rd_T45 xs (j : Int)).f1, .string (rd_T45 xs (j : Int)).f2, .int .i64 (rd_T45 xs (j : Int)).f3] 45)).cell? ⟨g, 0, none⟩ = some (.int .i64 i) :=
        pw_cell_below ((Below.refl wr.heap.size wr).alloc (Nat.le_refl _) _) hcap
      have hBA := Aside0.mk (HB.out.alloc HB.out.size (.cells #[.int .i64 (rd_T45 xs (j : Int)).f0, .int .i64 (rd_T45 xs (j : Int)).f1, .string (rd_T45 xs (j : Int)).f2, .int .i64 (rd_T45 xs (j : Int)).f3] 45))
      clear hcap
      by_cases he : (rd_T45 xs (j : Int)).f0 = i
      · have c2 : ((rd_T45 xs (j : Int)).f0 == i) = true := beq_iff_eq.2 he
        have hidx := Aside0.mk (idx_hit hl hno.out (by rw [← ht.out]; exact he))
        clear he
        go_wp2
        go_ret
        exact ⟨by rw [hidx.out]; rfl, hBA.out⟩
      · have c2 : ((rd_T45 xs (j : Int)).f0 == i) = false := beq_eq_false_iff_ne.2 he
        have hne := Aside0.mk he
        clear he
        go_wp2
        go_roundg (xs.length - (j + 1))
        case rel =>
          refine ⟨j + 1, rfl, ⟨rfl⟩, ⟨hl⟩, ⟨fun x hx => ?_⟩, hBA⟩
          rw [List.take_succ_eq_append_getElem hl] at hx
          rcases List.mem_append.1 hx with h | h
          · exact hno.out x h
          · rw [List.mem_singleton.1 h, ← ht.out]; exact hne.out
        case measure => have := hk.out; omega
    · have c1 : decide ((j : Int) < (xs.length : Int)) = false := decide_eq_false (by omega)
      have hidx := Aside0.mk (idx_miss (i := i) (xs := xs) (fun x hx => hno.out x (by rw [List.take_of_length_le (by omega)]; exact hx)))
      go_wp2
      go_ret
      exact ⟨by rw [hidx.out]; rfl, HB.out⟩
theorem size_alloc1 (w : World) (o : Obj) : (w.alloc o).heap.size = w.heap.size + 1 := by unfold World.alloc; exact Array.size_push ..
theorem size_up (w : World) (o : Obj) : w.heap.size ≤ (w.alloc o).heap.size := by rw [size_alloc1]; omega
def tree_Tree_Input.f (l0 : List S43) (a1 : Int) (a2 : Int) : Option (Int × Int × ByteArray × Int × Bool) :=
  if 0 ≤ a1 ∧ a1 < (l0.length : Int) then
    (if 0 ≤ idxAt a2 (rd_T43 l0 a1).f3 then some ((rd_T45 (rd_T43 l0 a1).f3 (idxAt a2 (rd_T43 l0 a1).f3)).f0, (rd_T45 (rd_T43 l0 a1).f3 (idxAt a2 (rd_T43 l0 a1).f3)).f1, (rd_T45 (rd_T43 l0 a1).f3 (idxAt a2 (rd_T43 l0 a1).f3)).f2, (rd_T45 (rd_T43 l0 a1).f3 (idxAt a2 (rd_T43 l0 a1).f3)).f3, true)
    else some (0, 0, ⟨#[]⟩, 0, false))
  else some (0, 0, ⟨#[]⟩, 0, false)
theorem idxAt_lt {i : Int} {xs : List S45} (h : 0 ≤ idxAt i xs) : idxAt i xs < (xs.length : Int) := by
  unfold idxAt at h ⊢
  cases hx : xs.findIdx? (fun x => x.f0 == i) with
  | none => rw [hx] at h; simp at h
  | some j =>
    rw [List.findIdx?_eq_some_iff_getElem] at hx
    obtain ⟨hl, _⟩ := hx
    simp only
    omega
set_option maxHeartbeats 8000000 in
set_option maxRecDepth 100000 in
theorem tree_Tree_Input.calls (A0 : Option Addr) (c0 : Nat) (l0 : List S43) (a1 : Int) (a2 : Int) (r1 : Int) (r2 : Int) (r3 : ByteArray) (r4 : Int) (r5 : Bool) (w : World) (hr0 : Kd.C k43 w A0 l0.length l0) (hc0 : l0.length ≤ c0) (h : tree_Tree_Input.f l0 a1 a2 = some (r1, r2, r3, r4, r5)) :
    Calls Tryd.prog 42 #[.slice A0 l0.length c0, .int .i64 a1, .int .i64 a2] w fun e w' => e = .returned (.tuple #[.agg #[.int .i64 r1, .int .i64 r2, .string r3, .int .i64 r4], .bool r5]) ∧ Below w.heap.size w w' := by
  have HR0 := Aside0.mk hr0
  have HC0 := Aside0.mk hc0
  clear hr0 hc0
  unfold tree_Tree_Input.f at h
  by_cases hh : 0 ≤ a1 ∧ a1 < (l0.length : Int)
  · rw [if_pos hh] at h
    have hhas : tree_Tree_has.f l0 a1 = some true := by
      unfold tree_Tree_has.f
      rw [if_pos hh.1, decide_eq_true hh.2]
    go_enter Tryd.func42, Tryd.ntmps42
    go_wp2_with (go_at_call 80; refine (tree_Tree_has.calls _ _ l0 a1 true _ (Kd.C_alloc (Kd.C_alloc HR0.out _) _) HC0.out hhas).mono ?_)
    rintro e w1 ⟨rfl, hd⟩
    obtain ⟨nd, rfl⟩ := hd
    have b5 := Aside0.mk (blk_drewN (blk_alloc (blk_new w (.cells #[.int .i64 a2] 3)) (.cells #[.int .i64 0, .int .i64 0, .string ⟨#[]⟩, .int .i64 0] 45)) nd)
    have b6 := Aside0.mk (blk_drewN (blk_new (w.alloc (.cells #[.int .i64 a2] 3)) (.cells #[.int .i64 0, .int .i64 0, .string ⟨#[]⟩, .int .i64 0] 45)) nd)
    have hB := Aside0.mk (pw_below_drewN (((Below.refl w.heap.size w).alloc (Nat.le_refl _) (.cells #[.int .i64 a2] 3)).alloc (size_up w (.cells #[.int .i64 a2] 3)) (.cells #[.int .i64 0, .int .i64 0, .string ⟨#[]⟩, .int .i64 0] 45)) nd)
    rw [size_alloc1] at b6
    generalize ((w.alloc (.cells #[.int .i64 a2] 3)).alloc (.cells #[.int .i64 0, .int .i64 0, .string ⟨#[]⟩, .int .i64 0] 45)).drewN nd = w1 at b5 b6 hB ⊢
    obtain ⟨n, rfl⟩ := Int.eq_ofNat_of_zero_le hh.1
    have c1 : decide (0 ≤ (n : Int)) = true := decide_eq_true hh.1
    have c2 : decide ((n : Int) < (l0.length : Int)) = true := decide_eq_true hh.2
    have hn : n < l0.length := by omega
    obtain ⟨ad, A3, c3, eA, g0, g1, g2, g3, hl3, hr3⟩ := at_T43 (Kd.C_below HR0.out hB.out) (n : Int) hh.1 (by omega)
    rw [Int.toNat_natCast] at g0 g1 g2 g3
    have HL3 := Aside0.mk hl3
    have HR3 := Aside0.mk hr3
    clear hl3 hr3
    have hcap : w1.cell? ⟨w.heap.size, 0, none⟩ = some (.int .i64 a2) := blk_cell b5.out 0
    subst eA
    go_wp2_with (go_at_call 82; refine (idx_calls w.heap.size a2 A3 c3 (rd_T43 l0 (n : Int)).f3 _ HR3.out HL3.out hcap).mono ?_)
    rintro e w2 ⟨rfl, hb2⟩
    have hB2 := Aside0.mk (below_step hB.out hb2)
    have b62 := Aside0.mk (blk_below b6.out hb2)
    have HR32 := Aside0.mk (Kd.C_below HR3.out hb2)
    have k0 := pw_cell_below hb2 g0
    have k1 := pw_cell_below hb2 g1
    have k2 := pw_cell_below hb2 g2
    have k3 := pw_cell_below hb2 g3
    clear g0 g1 g2 g3 hcap hb2 b6 b5
    have d0 := blk_cell b62.out 0
    have d1 := blk_cell b62.out 1
    have d2 := blk_cell b62.out 2
    have d3 := blk_cell b62.out 3
    have f0 := blk_frozen b62.out 0
    have f1 := blk_frozen b62.out 1
    have f2 := blk_frozen b62.out 2
    have f3 := blk_frozen b62.out 3
    by_cases hx : 0 ≤ idxAt a2 (rd_T43 l0 (n : Int)).f3
    · rw [if_pos hx] at h
      have hx2 := idxAt_lt hx
      generalize idxAt a2 (rd_T43 l0 (n : Int)).f3 = ix at h hx hx2 ⊢
      obtain ⟨m, rfl⟩ := Int.eq_ofNat_of_zero_le hx
      have c4 : decide ((m : Int) < 0) = false := decide_eq_false (by omega)
      have c5 : decide (0 ≤ (m : Int)) = true := decide_eq_true hx
      have c6 : decide ((m : Int) < ((rd_T43 l0 (n : Int)).f3.length : Int)) = true := decide_eq_true hx2
      have hm : m < (rd_T43 l0 (n : Int)).f3.length := by omega
      obtain ⟨ad5, eA5, q0, q1, q2, q3⟩ := at_T45 HR32.out (m : Int) hx (by omega)
      rw [Int.toNat_natCast] at q0 q1 q2 q3
      subst eA5
      simp only [Option.some.injEq, Prod.mk.injEq] at h
      obtain ⟨rfl, rfl, rfl, rfl, rfl⟩ := h
      go_wp2
      refine bodyPost_ret (results_ct rfl _ _ (w.heap.size + 1) 45 #[.int .i64 (rd_T45 (rd_T43 l0 (n : Int)).f3 (m : Int)).f0, .int .i64 (rd_T45 (rd_T43 l0 (n : Int)).f3 (m : Int)).f1, .string (rd_T45 (rd_T43 l0 (n : Int)).f3 (m : Int)).f2, .int .i64 (rd_T45 (rd_T43 l0 (n : Int)).f3 (m : Int)).f3] (0, 0) _ rfl (by refine blk_put (cs := #[.int .i64 (rd_T45 (rd_T43 l0 (n : Int)).f3 (m : Int)).f0, .int .i64 (rd_T45 (rd_T43 l0 (n : Int)).f3 (m : Int)).f1, .string (rd_T45 (rd_T43 l0 (n : Int)).f3 (m : Int)).f2, .int .i64 0]) ?_ 3 _ rfl; refine blk_put (cs := #[.int .i64 (rd_T45 (rd_T43 l0 (n : Int)).f3 (m : Int)).f0, .int .i64 (rd_T45 (rd_T43 l0 (n : Int)).f3 (m : Int)).f1, .string ⟨#[]⟩, .int .i64 0]) ?_ 2 _ rfl; refine blk_put (cs := #[.int .i64 (rd_T45 (rd_T43 l0 (n : Int)).f3 (m : Int)).f0, .int .i64 0, .string ⟨#[]⟩, .int .i64 0]) ?_ 1 _ rfl; refine blk_put (cs := #[.int .i64 0, .int .i64 0, .string ⟨#[]⟩, .int .i64 0]) ?_ 0 _ rfl; exact b62.out) Tryd.underlying45 rfl (by kernel_rfl)) rfl ?_
      exact ⟨rfl, below_set (below_set (below_set (below_set hB2.out (Nat.le_succ _)) (Nat.le_succ _)) (Nat.le_succ _)) (Nat.le_succ _)⟩
    · rw [if_neg hx] at h
      have c4 : decide (idxAt a2 (rd_T43 l0 (n : Int)).f3 < 0) = true := decide_eq_true (by omega)
      simp only [Option.some.injEq, Prod.mk.injEq] at h
      obtain ⟨rfl, rfl, rfl, rfl, rfl⟩ := h
      go_wp2
      refine bodyPost_ret (results_ct rfl _ _ (w.heap.size + 1) 45 #[.int .i64 0, .int .i64 0, .string ⟨#[]⟩, .int .i64 0] (0, 0) _ rfl (by refine blk_put (cs := #[.int .i64 0, .int .i64 0, .string ⟨#[]⟩, .int .i64 0]) ?_ 3 _ rfl; refine blk_put (cs := #[.int .i64 0, .int .i64 0, .string ⟨#[]⟩, .int .i64 0]) ?_ 2 _ rfl; refine blk_put (cs := #[.int .i64 0, .int .i64 0, .string ⟨#[]⟩, .int .i64 0]) ?_ 1 _ rfl; refine blk_put (cs := #[.int .i64 0, .int .i64 0, .string ⟨#[]⟩, .int .i64 0]) ?_ 0 _ rfl; exact b62.out) Tryd.underlying45 rfl (by kernel_rfl)) rfl ?_
      exact ⟨rfl, below_set (below_set (below_set (below_set hB2.out (Nat.le_succ _)) (Nat.le_succ _)) (Nat.le_succ _)) (Nat.le_succ _)⟩
  · rw [if_neg hh] at h
    have hhas : tree_Tree_has.f l0 a1 = some false := by
      unfold tree_Tree_has.f
      by_cases h1 : a1 ≥ 0
      · rw [if_pos h1, decide_eq_false (fun h2 => hh ⟨h1, h2⟩)]
      · rw [if_neg h1]
    simp only [Option.some.injEq, Prod.mk.injEq] at h
    obtain ⟨rfl, rfl, rfl, rfl, rfl⟩ := h
    go_enter Tryd.func42, Tryd.ntmps42
    go_wp2_with (go_at_call 80; refine (tree_Tree_has.calls _ _ l0 a1 false _ (Kd.C_alloc (Kd.C_alloc HR0.out _) _) HC0.out hhas).mono ?_)
    rintro e w1 ⟨rfl, hd⟩
    obtain ⟨nd, rfl⟩ := hd
    have b5 := Aside0.mk (blk_drewN (blk_alloc (blk_new w (.cells #[.int .i64 a2] 3)) (.cells #[.int .i64 0, .int .i64 0, .string ⟨#[]⟩, .int .i64 0] 45)) nd)
    have b6 := Aside0.mk (blk_drewN (blk_new (w.alloc (.cells #[.int .i64 a2] 3)) (.cells #[.int .i64 0, .int .i64 0, .string ⟨#[]⟩, .int .i64 0] 45)) nd)
    have hB := Aside0.mk (pw_below_drewN (((Below.refl w.heap.size w).alloc (Nat.le_refl _) (.cells #[.int .i64 a2] 3)).alloc (size_up w (.cells #[.int .i64 a2] 3)) (.cells #[.int .i64 0, .int .i64 0, .string ⟨#[]⟩, .int .i64 0] 45)) nd)
    rw [size_alloc1] at b6
    generalize ((w.alloc (.cells #[.int .i64 a2] 3)).alloc (.cells #[.int .i64 0, .int .i64 0, .string ⟨#[]⟩, .int .i64 0] 45)).drewN nd = w1 at b5 b6 hB ⊢
    have d0 := blk_cell b6.out 0
    have d1 := blk_cell b6.out 1
    have d2 := blk_cell b6.out 2
    have d3 := blk_cell b6.out 3
    have f0 := blk_frozen b6.out 0
    have f1 := blk_frozen b6.out 1
    have f2 := blk_frozen b6.out 2
    have f3 := blk_frozen b6.out 3
    go_wp2
    refine bodyPost_ret (results_ct rfl _ _ (w.heap.size + 1) 45 #[.int .i64 0, .int .i64 0, .string ⟨#[]⟩, .int .i64 0] (0, 0) _ rfl (by refine blk_put (cs := #[.int .i64 0, .int .i64 0, .string ⟨#[]⟩, .int .i64 0]) ?_ 3 _ rfl; refine blk_put (cs := #[.int .i64 0, .int .i64 0, .string ⟨#[]⟩, .int .i64 0]) ?_ 2 _ rfl; refine blk_put (cs := #[.int .i64 0, .int .i64 0, .string ⟨#[]⟩, .int .i64 0]) ?_ 1 _ rfl; refine blk_put (cs := #[.int .i64 0, .int .i64 0, .string ⟨#[]⟩, .int .i64 0]) ?_ 0 _ rfl; exact b6.out) Tryd.underlying45 rfl (by kernel_rfl)) rfl ?_
    exact ⟨rfl, below_set (below_set (below_set (below_set hB.out (Nat.le_succ _)) (Nat.le_succ _)) (Nat.le_succ _)) (Nat.le_succ _)⟩
end Go.Proofs.YtbngfhlciebeeaaDoor.L
end
section
namespace Go.Proofs.YtbngfhlciebeeaaDoor.Sp
set_option linter.unusedVariables false
set_option linter.unusedSimpArgs false
open Go.RowKit Go.Proofs.YtbngfhlciebeeaaDoor.L Go.Proofs.YtbngfhlciebeeaaDoorW.PrintWords
def eqI (x y : S45) : Bool := (x.f0 == y.f0) && ((x.f1 == y.f1) && ((x.f2.toList == y.f2.toList) && (x.f3 == y.f3)))
theorem eqI_iff {x y : S45} : eqI x y = true ↔ x = y := by
  unfold eqI
  rw [ByteArray.toList_eq, ByteArray.toList_eq]
  constructor
  · intro h
    simp only [Bool.and_eq_true, beq_iff_eq] at h
    obtain ⟨h0, h1, h2, h3⟩ := h
    cases x; cases y
    simp only at h0 h1 h2 h3
    subst h0 h1 h3
    rw [ext_bytes h2]
  · rintro rfl
    simp
def eqL : List S45 → List S45 → Bool
  | [], [] => true
  | x :: xs, y :: ys => eqI x y && eqL xs ys
  | _, _ => false
theorem eqL_iff : ∀ {xs ys : List S45}, eqL xs ys = true ↔ xs = ys
  | [], [] => by simp [eqL]
  | [], y :: ys => by simp [eqL]
  | x :: xs, [] => by simp [eqL]
  | x :: xs, y :: ys => by
    simp only [eqL, Bool.and_eq_true, List.cons.injEq]
    rw [eqI_iff, eqL_iff]
theorem eqL_len {xs ys : List S45} (h : xs.length ≠ ys.length) : eqL xs ys = false := by
  cases hx : eqL xs ys with
  | false => rfl
  | true => exact absurd (congrArg List.length (eqL_iff.1 hx)) h
theorem equal_l (xs ys : List S45) (hn : xs.length ≤ 1000000) (hl : xs.length = ys.length) (d : Nat) : ∀ j, j ≤ xs.length → xs.length - j = d →
    Ev (fun k => tree_Input.l0 k xs ys (xs.length : Int) (j : Int)) (eqL (xs.drop j) (ys.drop j)) := by
  induction d with
  | zero =>
    intro j hj hd
    refine Ev.succ ?_
    simp only [tree_Input.l0]
    refine Ev.neg (by omega) (Ev.some ?_)
    rw [List.drop_eq_nil_of_le (by omega), List.drop_eq_nil_of_le (by omega)]; rfl
  | succ d ih =>
    intro j hj hd
    have hj1 : j < xs.length := by omega
    have hj2 : j < ys.length := by omega
    rw [List.drop_eq_getElem_cons hj1, List.drop_eq_getElem_cons hj2]
    simp only [eqL]
    refine Ev.succ ?_
    simp only [tree_Input.l0]
    rw [rd45 hj1, rd45 hj2, wrap_at (by omega) (by omega)]
    refine Ev.pos (by omega) (Ev.pos (by omega) (Ev.pos (by omega) (Ev.pos (by omega) ?_)))
    have hc : (!((xs[j].f0) == (ys[j].f0)) || (!((xs[j].f1) == (ys[j].f1)) || (!(((xs[j].f2).toList) == ((ys[j].f2).toList)) || (!((xs[j].f3) == (ys[j].f3)))))) = !(eqI xs[j] ys[j]) := by
      unfold eqI
      simp only [Bool.not_and]
    rw [hc]
    cases he : eqI xs[j] ys[j] with
    | false => exact Ev.pos rfl (Ev.some rfl)
    | true =>
      refine Ev.neg (by decide) ?_
      rw [Bool.true_and]
      exact ih (j + 1) (by omega) (by omega)
theorem equal_ev (xs ys : List S45) (hn : xs.length ≤ 1000000) : Ev (fun k => tree_Input.f k xs ys) (eqL xs ys) := by
  unfold tree_Input.f
  by_cases h : xs.length = ys.length
  · exact Ev.pos (by omega) (equal_l xs ys hn h _ 0 (by omega) rfl)
  · exact Ev.neg (by omega) (Ev.some (eqL_len h).symm)
def eqJ (x y : S47) : Bool := (x.f0 == y.f0) && ((x.f1 == y.f1) && ((x.f2.toList == y.f2.toList) && (x.f3 == y.f3)))
theorem eqJ_iff {x y : S47} : eqJ x y = true ↔ x = y := by
  unfold eqJ
  rw [ByteArray.toList_eq, ByteArray.toList_eq]
  constructor
  · intro h
    simp only [Bool.and_eq_true, beq_iff_eq] at h
    obtain ⟨h0, h1, h2, h3⟩ := h
    cases x; cases y
    simp only at h0 h1 h2 h3
    subst h0 h1 h3
    rw [ext_bytes h2]
  · rintro rfl
    simp
def cp : List S47 → List S47 → Nat
  | x :: xs, y :: ys => if eqJ x y = true then cp xs ys + 1 else 0
  | _, _ => 0
theorem cp_ge : ∀ (u v : List S47) (a : Nat), a ≤ u.length → a ≤ v.length → (a ≤ cp u v ↔ u.take a = v.take a)
  | u, v, 0, _, _ => by simp
  | [], v, a + 1, h, _ => by simp at h
  | x :: u, [], a + 1, _, h => by simp at h
  | x :: u, y :: v, a + 1, h1, h2 => by
    have ih := cp_ge u v a (by simpa using h1) (by simpa using h2)
    simp only [cp, List.take_succ_cons, List.cons.injEq]
    by_cases he : eqJ x y = true
    · rw [if_pos he, ← ih]
      constructor
      · intro h; exact ⟨eqJ_iff.1 he, by omega⟩
      · rintro ⟨_, h⟩; omega
    · rw [if_neg he]
      constructor
      · intro h; omega
      · rintro ⟨h, _⟩; exact absurd (eqJ_iff.2 h) he
end Go.Proofs.YtbngfhlciebeeaaDoor.Sp
end
