/- Printed and hand-written steps towards the row (EvalTyped), those that it reaches. -/
import Derived.Test.YtbngfhlciebeeaaDoorEvalTypedG3
import Derived.Test.YtbngfhlciebeeaaDoorEvalTypedG11
namespace Go.Proofs.YtbngfhlciebeeaaDoor.L
set_option linter.unusedVariables false
set_option linter.unusedSimpArgs false
open Go.RowKit Go.Proofs.YtbngfhlciebeeaaDoorW.PrintWords Go.Proofs.YtbngfhlciebeeaaDoorW.PrintLast Go.Proofs.YtbngfhlciebeeaaDoorW.PrintMore
theorem bytes_ne {a b : ByteArray} (h : a ≠ b) : (a.toList == b.toList) = false := by
  rw [ByteArray.toList_eq, ByteArray.toList_eq, beq_eq_false_iff_ne]
  intro e
  apply h
  obtain ⟨⟨x⟩⟩ := a
  obtain ⟨⟨y⟩⟩ := b
  simp at e
  rw [e]
def idxVar (s : ByteArray) (xs : List S118) : Int := match xs.findIdx? (fun x => decide (x.f0 = s)) with | some j => (j : Int) | none => -1
theorem idxVar_hit {s : ByteArray} {xs : List S118} {j : Nat} (hl : j < xs.length) (hno : ∀ x ∈ xs.take j, x.f0 ≠ s) (he : xs[j].f0 = s) : idxVar s xs = (j : Int) := by
  have h : xs.findIdx? (fun x => decide (x.f0 = s)) = some j := by
    rw [List.findIdx?_eq_some_iff_getElem]
    refine ⟨hl, by simpa using he, fun k hk => ?_⟩
    have := hno xs[k] (List.mem_take_iff_getElem.2 ⟨k, by omega, rfl⟩)
    simpa using this
  unfold idxVar
  rw [h]
theorem idxVar_miss {s : ByteArray} {xs : List S118} (hno : ∀ x ∈ xs, x.f0 ≠ s) : idxVar s xs = -1 := by
  have h : xs.findIdx? (fun x => decide (x.f0 = s)) = none := by
    rw [List.findIdx?_eq_none_iff]
    intro x hx
    simpa using hno x hx
  unfold idxVar
  rw [h]
theorem idxVar_lt {s : ByteArray} {xs : List S118} (h : 0 ≤ idxVar s xs) : idxVar s xs < (xs.length : Int) := by
  unfold idxVar at h ⊢
  cases hx : xs.findIdx? (fun x => decide (x.f0 = s)) with
  | none => rw [hx] at h; simp at h
  | some j =>
    rw [List.findIdx?_eq_some_iff_getElem] at hx
    obtain ⟨hl, _⟩ := hx
    simp only
    omega
set_option maxHeartbeats 8000000 in
set_option maxRecDepth 100000 in
theorem idxVar_calls (g : Nat) (s : ByteArray) (A : Option Addr) (c : Nat) (xs : List S118) (w : World) (hr : Kd.C k118 w A xs.length xs) (hc : xs.length ≤ c) (hg : w.cell? ⟨g, 0, none⟩ = some (.string s)) :
    Calls Tryd.prog 141 #[.slice A xs.length c, .func (.func 142) #[] #[.pointer (some ⟨g, 0, none⟩)]] w fun e w' => e = .returned (.int .i64 (idxVar s xs)) ∧ Below w.heap.size w w' := by
  have HR := Aside0.mk hr
  have HG := Aside0.mk hg
  have HN := hr.2.1
  clear hr hg
  go_enter Tryd.func141, Tryd.ntmps141
  go_wp2
  go_loopg [8] xs.length (fun kq v8 w' => ∃ (j : Nat), v8 = .int .i64 (j : Int) ∧ Aside0 (kq = xs.length - j) ∧ Aside0 (j ≤ xs.length) ∧ Aside0 (∀ x ∈ xs.take j, x.f0 ≠ s) ∧ Aside0 (Below w.heap.size w w'))
  case atStart => exact ⟨0, rfl, ⟨rfl⟩, ⟨Nat.zero_le _⟩, ⟨by simp⟩, ⟨Below.refl _ _⟩⟩
  case round =>
    obtain ⟨j, rfl, hk, hj, hno, HB⟩ := hrel
    by_cases hl : j < xs.length
    · have c1 : decide ((j : Int) < (xs.length : Int)) = true := decide_eq_true (by omega)
      obtain ⟨ad, eA, g0, g1⟩ := at_T118 (Kd.C_below HR.out HB.out) (j : Int) (by omega) (by omega)
      subst eA
      rw [Int.toNat_natCast] at g0 g1
      have hcap := pw_cell_below HB.out HG.out
      have ht := Aside0.mk (show rd_T118 xs (j : Int) = xs[j] by
        unfold rd_T118
        rw [Int.toNat_natCast, List.getD_eq_getElem?_getD, List.getElem?_eq_getElem hl]; rfl)
      have hcapA : (wr.alloc (.cells #[.string (rd_T118 xs (j : Int)).f0, .int .i64 (rd_T118 xs (j : Int)).f1] 118)).cell? ⟨g, 0, none⟩ = some (.string s) :=
        pw_cell_below ((Below.refl wr.heap.size wr).alloc (Nat.le_refl _) _) hcap
      have hBA := Aside0.mk (HB.out.alloc HB.out.size (.cells #[.string (rd_T118 xs (j : Int)).f0, .int .i64 (rd_T118 xs (j : Int)).f1] 118))
      clear hcap
      by_cases he : (rd_T118 xs (j : Int)).f0 = s
      · have c2 : ((rd_T118 xs (j : Int)).f0.toList == s.toList) = true := by rw [he]; exact beq_self_eq_true _
        have hidx := Aside0.mk (idxVar_hit hl hno.out (by rw [← ht.out]; exact he))
        clear he
        go_wp2
        go_ret
        exact ⟨by rw [hidx.out]; rfl, hBA.out⟩
      · have c2 : ((rd_T118 xs (j : Int)).f0.toList == s.toList) = false := bytes_ne he
        have hne := Aside0.mk he
        clear he
        go_wp2
        go_roundg (xs.length - (j + 1))
        case rel =>
          refine ⟨j + 1, rfl, ⟨rfl⟩, ⟨hl⟩, ⟨fun x hx => ?_⟩, hBA⟩
          rw [List.take_succ_eq_append_getElem hl] at hx
          rcases List.mem_append.1 hx with h | h
          · exact hno.out x h
          · rw [List.mem_singleton.1 h, ← ht.out]; exact hne.out
        case measure => have := hk.out; omega
    · have c1 : decide ((j : Int) < (xs.length : Int)) = false := decide_eq_false (by omega)
      have hidx := Aside0.mk (idxVar_miss (s := s) (xs := xs) (fun x hx => hno.out x (by rw [List.take_of_length_le (by omega)]; exact hx)))
      go_wp2
      go_ret
      exact ⟨by rw [hidx.out]; rfl, HB.out⟩
def kind_Scope_find.f (l0 : List S118) (l1 : List ByteArray) (a1 : ByteArray) : Option (Int × Bool) :=
  if 0 ≤ idxVar a1 l0 then some ((rd_T118 l0 (idxVar a1 l0)).f1, true) else some (0, false)
set_option maxHeartbeats 8000000 in
set_option maxRecDepth 100000 in
theorem kind_Scope_find.calls (A0 : Option Addr) (c0 : Nat) (l0 : List S118) (A1 : Option Addr) (c1 : Nat) (l1 : List ByteArray) (a1 : ByteArray) (r1 : Int) (r2 : Bool) (w : World) (hr0 : Kd.C k118 w A0 l0.length l0) (hc0 : l0.length ≤ c0) (hr1 : Kd.C Kd.string w A1 l1.length l1) (hc1 : l1.length ≤ c1) (h : kind_Scope_find.f l0 l1 a1 = some (r1, r2)) :
    Calls Tryd.prog 116 #[.agg #[.slice A0 l0.length c0, .slice A1 l1.length c1], .string a1] w fun e w' => e = .returned (.tuple #[.int .i64 r1, .bool r2]) ∧ Below w.heap.size w w' := by
  have HR0 := Aside0.mk hr0
  have HC0 := Aside0.mk hc0
  clear hr0 hc0 hr1 hc1
  unfold kind_Scope_find.f at h
  have HH := Aside0.mk h
  clear h
  have hB := Aside0.mk (((Below.refl w.heap.size w).alloc (Nat.le_refl _) (.cells #[.slice A0 l0.length c0, .slice A1 l1.length c1] 78)).alloc (size_up w (.cells #[.slice A0 l0.length c0, .slice A1 l1.length c1] 78)) (.cells #[.string a1] 9))
  have b2 := Aside0.mk (blk_alloc (blk_new w (.cells #[.slice A0 l0.length c0, .slice A1 l1.length c1] 78)) (.cells #[.string a1] 9))
  have b3 := Aside0.mk (blk_new (w.alloc (.cells #[.slice A0 l0.length c0, .slice A1 l1.length c1] 78)) (.cells #[.string a1] 9))
  rw [size_alloc1] at b3
  have hcap := blk_cell b3.out 0
  go_enter Tryd.func116, Tryd.ntmps116
  go_wp2_with (go_at_call 141; refine (idxVar_calls (w.heap.size + 1) a1 A0 c0 l0 _ (Kd.C_below HR0.out hB.out) HC0.out hcap).mono ?_)
  rintro e w2 ⟨rfl, hb2⟩
  have hB2 := Aside0.mk (below_step hB.out hb2)
  have b22 := Aside0.mk (blk_below b2.out hb2)
  clear hcap hb2 b3 b2 hB
  have d0 := blk_cell b22.out 0
  have h := HH.out
  clear HH
  by_cases hx : 0 ≤ idxVar a1 l0
  · rw [if_pos hx] at h
    have hx2 := idxVar_lt hx
    generalize idxVar a1 l0 = ix at h hx hx2 ⊢
    obtain ⟨m, rfl⟩ := Int.eq_ofNat_of_zero_le hx
    have c4 : decide ((m : Int) < 0) = false := decide_eq_false (by omega)
    have c5 : decide (0 ≤ (m : Int)) = true := decide_eq_true hx
    have c6 : decide ((m : Int) < (l0.length : Int)) = true := decide_eq_true hx2
    have hm : m < l0.length := by omega
    obtain ⟨ad, eA, q0, q1⟩ := at_T118 (Kd.C_below HR0.out hB2.out) (m : Int) hx (by omega)
    rw [Int.toNat_natCast] at q0 q1
    subst eA
    simp only [Option.some.injEq, Prod.mk.injEq] at h
    obtain ⟨rfl, rfl⟩ := h
    go_wp2
    go_ret2
    exact ⟨rfl, hB2.out⟩
  · rw [if_neg hx] at h
    have c4 : decide (idxVar a1 l0 < 0) = true := decide_eq_true (by omega)
    simp only [Option.some.injEq, Prod.mk.injEq] at h
    obtain ⟨rfl, rfl⟩ := h
    go_wp2
    go_ret2
    exact ⟨rfl, hB2.out⟩
def idxCell (s : ByteArray) (xs : List S116) : Int := match xs.findIdx? (fun x => decide (x.f0 = s)) with | some j => (j : Int) | none => -1
theorem idxCell_hit {s : ByteArray} {xs : List S116} {j : Nat} (hl : j < xs.length) (hno : ∀ x ∈ xs.take j, x.f0 ≠ s) (he : xs[j].f0 = s) : idxCell s xs = (j : Int) := by
  have h : xs.findIdx? (fun x => decide (x.f0 = s)) = some j := by
    rw [List.findIdx?_eq_some_iff_getElem]
    refine ⟨hl, by simpa using he, fun k hk => ?_⟩
    have := hno xs[k] (List.mem_take_iff_getElem.2 ⟨k, by omega, rfl⟩)
    simpa using this
  unfold idxCell
  rw [h]
theorem idxCell_miss {s : ByteArray} {xs : List S116} (hno : ∀ x ∈ xs, x.f0 ≠ s) : idxCell s xs = -1 := by
  have h : xs.findIdx? (fun x => decide (x.f0 = s)) = none := by
    rw [List.findIdx?_eq_none_iff]
    intro x hx
    simpa using hno x hx
  unfold idxCell
  rw [h]
theorem idxCell_lt {s : ByteArray} {xs : List S116} (h : 0 ≤ idxCell s xs) : idxCell s xs < (xs.length : Int) := by
  unfold idxCell at h ⊢
  cases hx : xs.findIdx? (fun x => decide (x.f0 = s)) with
  | none => rw [hx] at h; simp at h
  | some j =>
    rw [List.findIdx?_eq_some_iff_getElem] at hx
    obtain ⟨hl, _⟩ := hx
    simp only
    omega
set_option maxHeartbeats 8000000 in
set_option maxRecDepth 100000 in
theorem idxCell_calls (g : Nat) (s : ByteArray) (A : Option Addr) (c : Nat) (xs : List S116) (w : World) (hr : Kd.C k116 w A xs.length xs) (hc : xs.length ≤ c) (hg : w.cell? ⟨g, 0, none⟩ = some (.string s)) :
    Calls Tryd.prog 144 #[.slice A xs.length c, .func (.func 145) #[] #[.pointer (some ⟨g, 0, none⟩)]] w fun e w' => e = .returned (.int .i64 (idxCell s xs)) ∧ Below w.heap.size w w' := by
  have HR := Aside0.mk hr
  have HG := Aside0.mk hg
  have HN := hr.2.1
  clear hr hg
  go_enter Tryd.func144, Tryd.ntmps144
  go_wp2
  go_loopg [8] xs.length (fun kq v8 w' => ∃ (j : Nat), v8 = .int .i64 (j : Int) ∧ Aside0 (kq = xs.length - j) ∧ Aside0 (j ≤ xs.length) ∧ Aside0 (∀ x ∈ xs.take j, x.f0 ≠ s) ∧ Aside0 (Below w.heap.size w w'))
  case atStart => exact ⟨0, rfl, ⟨rfl⟩, ⟨Nat.zero_le _⟩, ⟨by simp⟩, ⟨Below.refl _ _⟩⟩
  case round =>
    obtain ⟨j, rfl, hk, hj, hno, HB⟩ := hrel
    by_cases hl : j < xs.length
    · have c1 : decide ((j : Int) < (xs.length : Int)) = true := decide_eq_true (by omega)
      obtain ⟨ad, eA, g0, g1, g2, g3⟩ := at_T116 (Kd.C_below HR.out HB.out) (j : Int) (by omega) (by omega)
      subst eA
      rw [Int.toNat_natCast] at g0 g1 g2 g3
      have hcap := pw_cell_below HB.out HG.out
      have ht := Aside0.mk (show rd_T116 xs (j : Int) = xs[j] by
        unfold rd_T116
        rw [Int.toNat_natCast, List.getD_eq_getElem?_getD, List.getElem?_eq_getElem hl]; rfl)
      have hcapA : (wr.alloc (.cells #[.string (rd_T116 xs (j : Int)).f0, .int .i64 (rd_T116 xs (j : Int)).f1.f0, .int .i64 (rd_T116 xs (j : Int)).f1.f1, .string (rd_T116 xs (j : Int)).f1.f2] 116)).cell? ⟨g, 0, none⟩ = some (.string s) :=
        pw_cell_below ((Below.refl wr.heap.size wr).alloc (Nat.le_refl _) _) hcap
      have hBA := Aside0.mk (HB.out.alloc HB.out.size (.cells #[.string (rd_T116 xs (j : Int)).f0, .int .i64 (rd_T116 xs (j : Int)).f1.f0, .int .i64 (rd_T116 xs (j : Int)).f1.f1, .string (rd_T116 xs (j : Int)).f1.f2] 116))
      clear hcap
      by_cases he : (rd_T116 xs (j : Int)).f0 = s
      · have c2 : ((rd_T116 xs (j : Int)).f0.toList == s.toList) = true := by rw [he]; exact beq_self_eq_true _
        have hidx := Aside0.mk (idxCell_hit hl hno.out (by rw [← ht.out]; exact he))
        clear he
        go_wp2
        go_ret
        exact ⟨by rw [hidx.out]; rfl, hBA.out⟩
      · have c2 : ((rd_T116 xs (j : Int)).f0.toList == s.toList) = false := bytes_ne he
        have hne := Aside0.mk he
        clear he
        go_wp2
        go_roundg (xs.length - (j + 1))
        case rel =>
          refine ⟨j + 1, rfl, ⟨rfl⟩, ⟨hl⟩, ⟨fun x hx => ?_⟩, hBA⟩
          rw [List.take_succ_eq_append_getElem hl] at hx
          rcases List.mem_append.1 hx with h | h
          · exact hno.out x h
          · rw [List.mem_singleton.1 h, ← ht.out]; exact hne.out
        case measure => have := hk.out; omega
    · have c1 : decide ((j : Int) < (xs.length : Int)) = false := decide_eq_false (by omega)
      have hidx := Aside0.mk (idxCell_miss (s := s) (xs := xs) (fun x hx => hno.out x (by rw [List.take_of_length_le (by omega)]; exact hx)))
      go_wp2
      go_ret
      exact ⟨by rw [hidx.out]; rfl, HB.out⟩
def eval_Env_find.f (l0 : List S116) (l1 : List ByteArray) (a1 : ByteArray) : Option (Int × Int × ByteArray × Int) :=
  if 0 ≤ idxCell a1 l0 then some ((rd_T116 l0 (idxCell a1 l0)).f1.f0, (rd_T116 l0 (idxCell a1 l0)).f1.f1, (rd_T116 l0 (idxCell a1 l0)).f1.f2, 0) else some (0, 0, ⟨#[]⟩, 24)
theorem size_up2 (w : World) (o o' : Obj) : w.heap.size ≤ ((w.alloc o).alloc o').heap.size := by rw [size_alloc1, size_alloc1]; omega
set_option maxHeartbeats 8000000 in
set_option maxRecDepth 100000 in
theorem eval_Env_find.calls (A0 : Option Addr) (c0 : Nat) (l0 : List S116) (A1 : Option Addr) (c1 : Nat) (l1 : List ByteArray) (a1 : ByteArray) (r1 r2 : Int) (r3 : ByteArray) (r4 : Int) (w : World) (hr0 : Kd.C k116 w A0 l0.length l0) (hc0 : l0.length ≤ c0) (hr1 : Kd.C Kd.string w A1 l1.length l1) (hc1 : l1.length ≤ c1) (h : eval_Env_find.f l0 l1 a1 = some (r1, r2, r3, r4)) :
    Calls Tryd.prog 123 #[.agg #[.slice A0 l0.length c0, .slice A1 l1.length c1], .string a1] w fun e w' => e = .returned (.tuple #[.agg #[.int .i64 r1, .int .i64 r2, .string r3], .int .i64 r4]) ∧ Below w.heap.size w w' := by
  have HR0 := Aside0.mk hr0
  have HC0 := Aside0.mk hc0
  clear hr0 hc0 hr1 hc1
  unfold eval_Env_find.f at h
  have HH := Aside0.mk h
  clear h
  have hB := Aside0.mk ((((Below.refl w.heap.size w).alloc (Nat.le_refl _) (.cells #[.slice A0 l0.length c0, .slice A1 l1.length c1] 98)).alloc (size_up w (.cells #[.slice A0 l0.length c0, .slice A1 l1.length c1] 98)) (.cells #[.string a1] 9)).alloc (size_up2 w (.cells #[.slice A0 l0.length c0, .slice A1 l1.length c1] 98) (.cells #[.string a1] 9)) (.cells #[.int .i64 0, .int .i64 0, .string ⟨#[]⟩] 103))
  have b2 := Aside0.mk (blk_alloc (blk_alloc (blk_new w (.cells #[.slice A0 l0.length c0, .slice A1 l1.length c1] 98)) (.cells #[.string a1] 9)) (.cells #[.int .i64 0, .int .i64 0, .string ⟨#[]⟩] 103))
  have b3 := Aside0.mk (blk_alloc (blk_new (w.alloc (.cells #[.slice A0 l0.length c0, .slice A1 l1.length c1] 98)) (.cells #[.string a1] 9)) (.cells #[.int .i64 0, .int .i64 0, .string ⟨#[]⟩] 103))
  have b4 := Aside0.mk (blk_new ((w.alloc (.cells #[.slice A0 l0.length c0, .slice A1 l1.length c1] 98)).alloc (.cells #[.string a1] 9)) (.cells #[.int .i64 0, .int .i64 0, .string ⟨#[]⟩] 103))
  rw [size_alloc1] at b3
  rw [size_alloc1, size_alloc1] at b4
  have hcap := blk_cell b3.out 0
  go_enter Tryd.func123, Tryd.ntmps123
  go_wp2_with (go_at_call 144; refine (idxCell_calls (w.heap.size + 1) a1 A0 c0 l0 _ (Kd.C_below HR0.out hB.out) HC0.out hcap).mono ?_)
  rintro e w2 ⟨rfl, hb2⟩
  have hB2 := Aside0.mk (below_step hB.out hb2)
  have b22 := Aside0.mk (blk_below b2.out hb2)
  have b42 := Aside0.mk (blk_below b4.out hb2)
  clear hcap hb2 b3 b2 b4 hB
  have e0 := blk_cell b22.out 0
  have d0 := blk_cell b42.out 0
  have d1 := blk_cell b42.out 1
  have d2 := blk_cell b42.out 2
  have f0 := blk_frozen b42.out 0
  have f1 := blk_frozen b42.out 1
  have f2 := blk_frozen b42.out 2
  have h := HH.out
  clear HH
  by_cases hx : 0 ≤ idxCell a1 l0
  · rw [if_pos hx] at h
    have hx2 := idxCell_lt hx
    generalize idxCell a1 l0 = ix at h hx hx2 ⊢
    obtain ⟨m, rfl⟩ := Int.eq_ofNat_of_zero_le hx
    have c4 : decide ((m : Int) < 0) = false := decide_eq_false (by omega)
    have c5 : decide (0 ≤ (m : Int)) = true := decide_eq_true hx
    have c6 : decide ((m : Int) < (l0.length : Int)) = true := decide_eq_true hx2
    have hm : m < l0.length := by omega
    obtain ⟨ad, eA, q0, q1, q2, q3⟩ := at_T116 (Kd.C_below HR0.out hB2.out) (m : Int) hx (by omega)
    rw [Int.toNat_natCast] at q0 q1 q2 q3
    subst eA
    simp only [Option.some.injEq, Prod.mk.injEq] at h
    obtain ⟨rfl, rfl, rfl, rfl⟩ := h
    go_wp2
    refine bodyPost_ret (results_ct rfl _ _ (w.heap.size + 2) 103 #[.int .i64 (rd_T116 l0 (m : Int)).f1.f0, .int .i64 (rd_T116 l0 (m : Int)).f1.f1, .string (rd_T116 l0 (m : Int)).f1.f2] (0, 0) _ rfl (by refine blk_put (cs := #[.int .i64 (rd_T116 l0 (m : Int)).f1.f0, .int .i64 (rd_T116 l0 (m : Int)).f1.f1, .string ⟨#[]⟩]) ?_ 2 _ rfl; refine blk_put (cs := #[.int .i64 (rd_T116 l0 (m : Int)).f1.f0, .int .i64 0, .string ⟨#[]⟩]) ?_ 1 _ rfl; refine blk_put (cs := #[.int .i64 0, .int .i64 0, .string ⟨#[]⟩]) ?_ 0 _ rfl; exact b42.out) Tryd.underlying103 rfl (by kernel_rfl)) rfl ?_
    exact ⟨rfl, below_set (below_set (below_set hB2.out (by omega)) (by omega)) (by omega)⟩
  · rw [if_neg hx] at h
    have c4 : decide (idxCell a1 l0 < 0) = true := decide_eq_true (by omega)
    simp only [Option.some.injEq, Prod.mk.injEq] at h
    obtain ⟨rfl, rfl, rfl, rfl⟩ := h
    go_wp2
    refine bodyPost_ret (results_ct rfl _ _ (w.heap.size + 2) 103 #[.int .i64 0, .int .i64 0, .string ⟨#[]⟩] (0, 0) _ rfl (by refine blk_put (cs := #[.int .i64 0, .int .i64 0, .string ⟨#[]⟩]) ?_ 2 _ rfl; refine blk_put (cs := #[.int .i64 0, .int .i64 0, .string ⟨#[]⟩]) ?_ 1 _ rfl; refine blk_put (cs := #[.int .i64 0, .int .i64 0, .string ⟨#[]⟩]) ?_ 0 _ rfl; exact b42.out) Tryd.underlying103 rfl (by kernel_rfl)) rfl ?_
    exact ⟨rfl, below_set (below_set (below_set hB2.out (by omega)) (by omega)) (by omega)⟩
end Go.Proofs.YtbngfhlciebeeaaDoor.L
