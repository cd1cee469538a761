/- Printed and hand-written steps towards the row (KindMore), those that it reaches. -/
import Derived.Test.YtbngfhlciebeeaaDoorKindMoreGPars3
section
namespace Go.Proofs.YtbngfhlciebeeaaDoor.L
set_option linter.unusedVariables false
set_option linter.unusedSimpArgs false
open Go.RowKit Go.Proofs.YtbngfhlciebeeaaDoorW.PrintWords Go.Proofs.YtbngfhlciebeeaaDoorW.PrintLast Go.Proofs.YtbngfhlciebeeaaDoorW.PrintMore
theorem IsP.row {w0 W : World} {g : Nat} {A : Option Addr} {c : Nat} {l : List S32} {i : Int} {e : List S156} (h : IsP w0 W g A c l i e) : ∃ A2 c2, W.cell? ⟨g, 2, none⟩ = some (.slice A2 e.length c2) := by
  obtain ⟨ve, q, _, r, _⟩ := h
  obtain ⟨A2, c2, rfl⟩ := Kd.R_slice r
  exact ⟨A2, c2, blk_cell q 2⟩
def Par (f : FuncId) (args : List Value) (w0 : World) (g : Nat) (A : Option Addr) (c : Nat) (l : List S32) (i : Nat) (e : List S156) (r : Option (Nat × List S156)) : Prop :=
  ∀ w, IsP w0 w g A c l (i : Int) e → Calls Tryd.prog f (Value.pointer (some ⟨g, 0, none⟩) :: args).toArray w (PaPost w0 w g A c l r)
def unR (op : Int) : Option (Nat × List S156) → Option (Nat × List S156)
  | none => none
  | some (i2, e2) => some (i2, e2 ++ [nodeO op ((e2.length : Int) - 1) 0])
section
variable {w0 w : World} {g : Nat} {A : Option Addr} {c : Nat} {l : List S32} {i i2 : Nat} {e e2 : List S156} {r : Option (Nat × List S156)}
set_option maxHeartbeats 4000000 in
set_option maxRecDepth 100000 in
theorem unary_atom (h1 : isT (nextT l i) [⟨#[110, 111, 116]⟩] = false) (h2 : isT (nextT l i) [⟨#[45]⟩] = false) (hr : Par 156 [] w0 g A c l i e r) : Par 138 [] w0 g A c l i e r := by
  intro w h
  have H := Aside0.mk h
  have N1 := Aside0.mk h1
  have N2 := Aside0.mk h2
  have HR := Aside0.mk hr
  clear h h1 h2 hr
  go_enter Tryd.func138, Tryd.ntmps138
  go_wp2_with (go_at_call 155; refine (take_no H.out _ N1.out).mono ?_)
  rintro x w1 ⟨rfl, h_, k_⟩
  have H1 := Aside0.mk h_
  have K1 := Aside0.mk k_
  clear h_ k_
  go_wp2_with (go_at_call 155; refine (take_no H1.out _ N2.out).mono ?_)
  rintro x w2 ⟨rfl, h_, k_⟩
  have H2 := Aside0.mk h_
  have K2 := Aside0.mk (K1.out.trans k_)
  clear h_ k_
  cases r with
  | none =>
    go_wp2_with (go_at_call 156; refine (HR.out _ H2.out).mono ?_)
    rintro x w3 ⟨rfl, h_⟩
    have B3 := Aside0.mk h_
    clear h_
    go_wp2
    go_ret
    exact ⟨rfl, B3.out⟩
  | some p =>
    obtain ⟨i2, e2⟩ := p
    go_wp2_with (go_at_call 156; refine (HR.out _ H2.out).mono ?_)
    rintro x w3 ⟨rfl, h_, k_⟩
    have H3 := Aside0.mk h_
    have K3 := Aside0.mk (K2.out.trans k_)
    clear h_ k_
    go_wp2
    go_ret
    exact ⟨rfl, H3.out, K3.out⟩
set_option maxHeartbeats 4000000 in
set_option maxRecDepth 100000 in
theorem unary_not (h1 : isT (nextT l i) [⟨#[110, 111, 116]⟩] = true) (hr : Par 138 [] w0 g A c l (i + 1) e r) (hb : ∀ i2 e2, r = some (i2, e2) → e2.length ≤ 1000000) :
    Par 138 [] w0 g A c l i e (unR 1 r) := by
  intro w h
  have H := Aside0.mk h
  have N1 := Aside0.mk h1
  have HR := Aside0.mk hr
  clear h h1 hr
  go_enter Tryd.func138, Tryd.ntmps138
  go_wp2_with (go_at_call 155; refine (take_yes H.out _ N1.out).mono ?_)
  rintro x w1 ⟨rfl, h_, k_⟩
  have H1 := Aside0.mk h_
  have K1 := Aside0.mk k_
  clear h_ k_
  cases r with
  | none =>
    clear hb
    go_wp2_with (go_at_call 138; refine (HR.out _ H1.out).mono ?_)
    rintro x w3 ⟨rfl, h_⟩
    have B3 := Aside0.mk h_
    clear h_
    go_wp2
    go_ret
    exact ⟨rfl, B3.out⟩
  | some p =>
    obtain ⟨i2, e2⟩ := p
    have hl2 := hb i2 e2 rfl
    clear hb
    go_wp2_with (go_at_call 138; refine (HR.out _ H1.out).mono ?_)
    rintro x w3 ⟨rfl, h_, k_⟩
    have H3 := Aside0.mk h_
    have K3 := Aside0.mk (K1.out.trans k_)
    clear h_ k_
    obtain ⟨A2, c2, q2⟩ := IsP.row H3.out
    go_wp2_with (go_at_call 140; refine (add_calls H3.out (nodeO 1 ((e2.length : Int) - 1) 0) hl2).mono ?_)
    rintro x w4 ⟨rfl, h_, k_⟩
    have H4 := Aside0.mk h_
    have K4 := Aside0.mk (K3.out.trans k_)
    clear h_ k_
    go_wp2
    go_ret
    exact ⟨rfl, H4.out, K4.out⟩
set_option maxHeartbeats 4000000 in
set_option maxRecDepth 100000 in
theorem unary_neg (h1 : isT (nextT l i) [⟨#[110, 111, 116]⟩] = false) (h2 : isT (nextT l i) [⟨#[45]⟩] = true) (hr : Par 138 [] w0 g A c l (i + 1) e r) (hb : ∀ i2 e2, r = some (i2, e2) → e2.length ≤ 1000000) :
    Par 138 [] w0 g A c l i e (unR 2 r) := by
  intro w h
  have H := Aside0.mk h
  have N1 := Aside0.mk h1
  have N2 := Aside0.mk h2
  have HR := Aside0.mk hr
  clear h h1 h2 hr
  go_enter Tryd.func138, Tryd.ntmps138
  go_wp2_with (go_at_call 155; refine (take_no H.out _ N1.out).mono ?_)
  rintro x w0_ ⟨rfl, h_, k_⟩
  have H0 := Aside0.mk h_
  have K0 := Aside0.mk k_
  clear h_ k_
  go_wp2_with (go_at_call 155; refine (take_yes H0.out _ N2.out).mono ?_)
  rintro x w1 ⟨rfl, h_, k_⟩
  have H1 := Aside0.mk h_
  have K1 := Aside0.mk (K0.out.trans k_)
  clear h_ k_
  cases r with
  | none =>
    clear hb
    go_wp2_with (go_at_call 138; refine (HR.out _ H1.out).mono ?_)
    rintro x w3 ⟨rfl, h_⟩
    have B3 := Aside0.mk h_
    clear h_
    go_wp2
    go_ret
    exact ⟨rfl, B3.out⟩
  | some p =>
    obtain ⟨i2, e2⟩ := p
    have hl2 := hb i2 e2 rfl
    clear hb
    go_wp2_with (go_at_call 138; refine (HR.out _ H1.out).mono ?_)
    rintro x w3 ⟨rfl, h_, k_⟩
    have H3 := Aside0.mk h_
    have K3 := Aside0.mk (K1.out.trans k_)
    clear h_ k_
    obtain ⟨A2, c2, q2⟩ := IsP.row H3.out
    go_wp2_with (go_at_call 140; refine (add_calls H3.out (nodeO 2 ((e2.length : Int) - 1) 0) hl2).mono ?_)
    rintro x w4 ⟨rfl, h_, k_⟩
    have H4 := Aside0.mk h_
    have K4 := Aside0.mk (K3.out.trans k_)
    clear h_ k_
    go_wp2
    go_ret
    exact ⟨rfl, H4.out, K4.out⟩
set_option maxHeartbeats 4000000 in
set_option maxRecDepth 100000 in
theorem binary_unary (hr : Par 138 [] w0 g A c l i e r) : Par 115 [.int .i64 5] w0 g A c l i e r := by
  intro w h
  have H := Aside0.mk h
  have HR := Aside0.mk hr
  clear h hr
  go_enter Tryd.func115, Tryd.ntmps115
  go_wp2_with (go_at_call 137; refine (levels_calls _).mono ?_)
  rintro x w1 ⟨a, rfl, ha, hb⟩
  have H1 := Aside0.mk (IsP.below H.out hb)
  have K1 := Aside0.mk (KeepT.of_below hb)
  clear ha hb
  cases r with
  | none =>
    go_wp2_with (go_at_call 138; refine (HR.out _ H1.out).mono ?_)
    rintro x w3 ⟨rfl, h_⟩
    have B3 := Aside0.mk h_
    clear h_
    go_wp2
    go_ret
    exact ⟨rfl, B3.out⟩
  | some p =>
    obtain ⟨i2, e2⟩ := p
    go_wp2_with (go_at_call 138; refine (HR.out _ H1.out).mono ?_)
    rintro x w3 ⟨rfl, h_, k_⟩
    have H3 := Aside0.mk h_
    have K3 := Aside0.mk (K1.out.trans k_)
    clear h_ k_
    go_wp2
    go_ret
    exact ⟨rfl, H3.out, K3.out⟩
theorem lev_at {W : World} {a m : Nat} (h : HasLev W a) (hm : m < 5) : ∃ sb ob, W.cell? ⟨a, m * 3, none⟩ = some (.slice (some ⟨sb, 0, none⟩) (levAt m).signs.length (levAt m).signs.length) ∧ W.cell? ⟨a, m * 3 + 1, none⟩ = some (.slice (some ⟨ob, 0, none⟩) (levAt m).ops.length (levAt m).ops.length) ∧ W.cell? ⟨a, m * 3 + 2, none⟩ = some (.bool (levAt m).once) ∧
    W.heap[sb]? = some (.cells ((levAt m).signs.map Value.string).toArray 9 (0, 0)) ∧ W.heap[ob]? = some (.cells ((levAt m).ops.map (Value.int .i64)).toArray 3 (0, 0)) := by
  obtain ⟨s0, o0, s1, o1, s2, o2, s3, o3, s4, o4, h, p0, q0, p1, q1, p2, q2, p3, q3, p4, q4⟩ := h
  have hc := fun j => blk_cell h j
  have hm5 : m = 0 ∨ m = 1 ∨ m = 2 ∨ m = 3 ∨ m = 4 := by omega
  rcases hm5 with rfl | rfl | rfl | rfl | rfl
  · exact ⟨s0, o0, hc 0, hc 1, hc 2, p0, q0⟩
  · exact ⟨s1, o1, hc 3, hc 4, hc 5, p1, q1⟩
  · exact ⟨s2, o2, hc 6, hc 7, hc 8, p2, q2⟩
  · exact ⟨s3, o3, hc 9, hc 10, hc 11, p3, q3⟩
  · exact ⟨s4, o4, hc 12, hc 13, hc 14, p4, q4⟩
theorem lev_facts {m : Nat} (hm : m < 5) : (levAt m).signs.length = (levAt m).ops.length ∧ (levAt m).signs.length ≤ 1000000 ∧ ∀ o ∈ (levAt m).ops, o ≠ 0 := by
  have hm5 : m = 0 ∨ m = 1 ∨ m = 2 ∨ m = 3 ∨ m = 4 := by omega
  rcases hm5 with rfl | rfl | rfl | rfl | rfl <;> exact ⟨by decide, by decide, by decide⟩
theorem opIn_mem : ∀ {ss : List ByteArray} {os : List Int} {t : S32} {o : Int}, opIn ss os t = some o → o ∈ os
  | [], _, _, _, h => by simp [opIn] at h
  | s :: ss, [], _, _, h => by simp [opIn] at h
  | s :: ss, o :: os, t, o', h => by
    simp only [opIn] at h
    by_cases hs : isT t [s] = true
    · rw [if_pos hs] at h
      rw [Option.some.inj h]; exact List.mem_cons_self
    · rw [if_neg hs] at h
      exact List.mem_cons_of_mem _ (opIn_mem h)
end
end Go.Proofs.YtbngfhlciebeeaaDoor.L
end
section
namespace Go.Proofs.YtbngfhlciebeeaaDoor.L
set_option linter.unusedVariables false
set_option linter.unusedSimpArgs false
open Go.RowKit Go.Proofs.YtbngfhlciebeeaaDoorW.PrintWords Go.Proofs.YtbngfhlciebeeaaDoorW.PrintLast Go.Proofs.YtbngfhlciebeeaaDoorW.PrintMore
section
variable {w0 w : World} {g : Nat} {A : Option Addr} {c : Nat} {l : List S32} {i i2 : Nat} {e e2 : List S156} {r : Option (Nat × List S156)}
theorem op_none (h : IsP w0 w g A c l (i : Int) e) (sb ob m : Nat) (hm : m < 5) (hs : w.heap[sb]? = some (.cells ((levAt m).signs.map Value.string).toArray 9 (0, 0))) (ho : w.heap[ob]? = some (.cells ((levAt m).ops.map (Value.int .i64)).toArray 3 (0, 0))) (hn : opIn (levAt m).signs (levAt m).ops (nextT l i) = none) :
    Calls Tryd.prog 139 #[.pointer (some ⟨g, 0, none⟩), .agg #[.slice (some ⟨sb, 0, none⟩) (levAt m).signs.length (levAt m).signs.length, .slice (some ⟨ob, 0, none⟩) (levAt m).ops.length (levAt m).ops.length, .bool (levAt m).once]] w fun x w' => x = .returned (.int .i64 0) ∧ IsP w0 w' g A c l (i : Int) e ∧ KeepT w w' :=
  (op_calls h sb ob _ _ (lev_facts hm).1 (lev_facts hm).2.1 _ hs ho).mono fun x w' hx => by rw [hn] at hx; exact hx
theorem op_some {o : Int} (h : IsP w0 w g A c l (i : Int) e) (sb ob m : Nat) (hm : m < 5) (hs : w.heap[sb]? = some (.cells ((levAt m).signs.map Value.string).toArray 9 (0, 0))) (ho : w.heap[ob]? = some (.cells ((levAt m).ops.map (Value.int .i64)).toArray 3 (0, 0))) (hn : opIn (levAt m).signs (levAt m).ops (nextT l i) = some o) :
    Calls Tryd.prog 139 #[.pointer (some ⟨g, 0, none⟩), .agg #[.slice (some ⟨sb, 0, none⟩) (levAt m).signs.length (levAt m).signs.length, .slice (some ⟨ob, 0, none⟩) (levAt m).ops.length (levAt m).ops.length, .bool (levAt m).once]] w fun x w' => x = .returned (.int .i64 o) ∧ IsP w0 w' g A c l ((i + 1 : Nat) : Int) e ∧ KeepT w w' :=
  (op_calls h sb ob _ _ (lev_facts hm).1 (lev_facts hm).2.1 _ hs ho).mono fun x w' hx => by rw [hn] at hx; exact hx
theorem par_none {f : FuncId} {args : List Value} (h : Par f args w0 g A c l i e none) (hp : IsP w0 w g A c l (i : Int) e) : Calls Tryd.prog f (Value.pointer (some ⟨g, 0, none⟩) :: args).toArray w fun x w' => x = .returned (.bool false) ∧ Below w0.heap.size w0 w' := h w hp
theorem par_some {f : FuncId} {args : List Value} (h : Par f args w0 g A c l i e (some (i2, e2))) (hp : IsP w0 w g A c l (i : Int) e) : Calls Tryd.prog f (Value.pointer (some ⟨g, 0, none⟩) :: args).toArray w fun x w' => x = .returned (.bool true) ∧ IsP w0 w' g A c l (i2 : Int) e2 ∧ KeepT w w' := h w hp
end
theorem pa_loop {k : Nat} {l : List S32} {m i : Nat} {e : List S156} (hm : m < 5) : pa (k + 1) l (m + 7) i e = (match opIn (levAt m).signs (levAt m).ops (nextT l i) with | none => some (some (i, e)) | some o => (pa k l (m + 1) (i + 1) e).bind fun r => (match r with | none => some none | some (i2, e2) => if (levAt m).once = true then some (some (i2, e2 ++ [nodeO o ((e.length : Int) - 1) ((e2.length : Int) - 1)])) else pa k l (m + 7) i2 (e2 ++ [nodeO o ((e.length : Int) - 1) ((e2.length : Int) - 1)]))) := by
  simp only [pa]
  rw [if_neg (by omega), if_neg (by omega), if_neg (by omega), show m + 7 - 7 = m by omega]
  rfl
theorem pa_bin {k : Nat} {l : List S32} {m i : Nat} {e : List S156} (hm : m < 5) : pa (k + 1) l m i e = (pa k l (m + 1) i e).bind fun r => (match r with | none => some none | some (i2, e2) => pa k l (m + 7) i2 e2) := by
  simp only [pa]
  rw [if_neg (by omega), if_neg (by omega), if_pos hm]
  rfl
set_option maxHeartbeats 8000000 in
set_option maxRecDepth 100000 in
theorem binary_calls {w0 : World} {g : Nat} {A : Option Addr} {c : Nat} {l : List S32} (hll : l.length ≤ 1000000) (k m : Nat) (hm : m < 5)
    (hsub : ∀ j, j ≤ k → ∀ i e r, pa j l (m + 1) i e = some r → e.length ≤ i → i ≤ l.length → Par 115 [.int .i64 ((m : Int) + 1)] w0 g A c l i e r) (i : Nat) (e : List S156) (r : Option (Nat × List S156)) (hp : pa (k + 1) l m i e = some r) (he : e.length ≤ i) (hi : i ≤ l.length) :
    Par 115 [.int .i64 (m : Int)] w0 g A c l i e r := by
  intro w h
  rw [pa_bin hm] at hp
  obtain ⟨r1, h1, hp⟩ := Option.bind_eq_some_iff.1 hp
  have H := Aside0.mk h
  have S1 := Aside0.mk (hsub k (Nat.le_refl _) i e r1 h1 he hi)
  have HSUB := Aside0.mk hsub
  have hinv := Aside0.mk (fun i2 e2 (hr : r1 = some (i2, e2)) => pa_inv k l (m + 1) i e i2 e2 (by rw [h1, hr]) hi)
  have HE := Aside0.mk he
  have HP := Aside0.mk hp
  clear h hsub h1 he hp hi
  have b5 : ((m : Int) == 5) = false := beq_eq_false_iff_ne.2 (by omega)
  go_enter Tryd.func115, Tryd.ntmps115
  go_wp2_with (go_at_call 137; refine (levels_calls _).mono ?_)
  rintro x w1 ⟨a, rfl, ha, hb⟩
  have H1 := Aside0.mk (IsP.below H.out hb)
  have K1 := Aside0.mk (KeepT.of_below hb)
  have L1 := Aside0.mk ha
  clear ha hb H
  cases r1 with
  | none =>
    have hr := HP.out
    simp only [Option.some.injEq] at hr
    subst hr
    go_wp2_with (go_at_call 115; refine (par_none S1.out H1.out).mono ?_)
    rintro x w2 ⟨rfl, h_⟩
    have B2 := Aside0.mk h_
    clear h_
    go_wp2
    go_ret
    exact ⟨rfl, B2.out⟩
  | some p =>
    obtain ⟨i2, e2⟩ := p
    obtain ⟨v1, v2, v3⟩ := hinv.out i2 e2 rfl
    have he2 : e2.length ≤ i2 := by have := HE.out; omega
    clear hinv HE v1 v3
    go_wp2_with (go_at_call 115; refine (par_some S1.out H1.out).mono ?_)
    rintro x w2 ⟨rfl, h_, k_⟩
    have H2 := Aside0.mk h_
    have K2 := Aside0.mk (K1.out.trans k_)
    have L2 := Aside0.mk (L1.out.keep k_)
    clear h_ k_ H1 K1 L1 S1
    go_wp2
    go_loopg [6] k (fun kq v6 wr => ∃ (i3 : Nat) (e3 : List S156), Aside0 (pa kq l (m + 7) i3 e3 = some r) ∧ Aside0 (kq ≤ k) ∧ Aside0 (IsP w0 wr g A c l (i3 : Int) e3) ∧ Aside0 (KeepT w wr) ∧ Aside0 (HasLev wr a) ∧ Aside0 (e3.length ≤ i3 ∧ i3 ≤ l.length))
    case atStart => exact ⟨i2, e2, HP, ⟨Nat.le_refl _⟩, H2, K2, L2, ⟨he2, v2⟩⟩
    case round =>
      clear HP H2 K2 L2 he2 v2
      obtain ⟨i3, e3, HP, HK, H3, K3, L3, HV⟩ := hrel
      cases gk with
      | zero => exact absurd HP.out (by simp [pa])
      | succ k1 =>
        have hp := HP.out
        rw [pa_loop hm] at hp
        obtain ⟨hv1, hv2⟩ := HV.out
        obtain ⟨A3, c3, q3⟩ := IsP.row H3.out
        obtain ⟨sb, ob, l0, l1, l2, hs, ho⟩ := lev_at L3.out hm
        have HS := Aside0.mk hs
        have HO := Aside0.mk ho
        clear HP hs ho
        have b1 : decide (0 ≤ (m : Int)) = true := decide_eq_true (by omega)
        have b2 : decide ((m : Int) < 5) = true := decide_eq_true (by omega)
        cases hop : opIn (levAt m).signs (levAt m).ops (nextT l i3) with
        | none =>
          rw [hop] at hp
          simp only [Option.some.injEq] at hp
          subst hp
          have HN := Aside0.mk hop
          clear hop
          go_wp2_with (go_at_call 139; refine (op_none H3.out sb ob m hm HS.out HO.out HN.out).mono ?_)
          rintro x w4 ⟨rfl, h_, k_⟩
          have H4 := Aside0.mk h_
          have K4 := Aside0.mk (K3.out.trans k_)
          clear h_ k_
          go_wp2
          go_ret
          exact ⟨rfl, H4.out, K4.out⟩
        | some o =>
          rw [hop] at hp
          obtain ⟨r4, h4, hp⟩ := Option.bind_eq_some_iff.1 hp
          have ho0 : (o == 0) = false := beq_eq_false_iff_ne.2 ((lev_facts hm).2.2 o (opIn_mem hop))
          have hil := opIn_lt hop
          have S4 := Aside0.mk (HSUB.out k1 (by have := HK.out; omega) (i3 + 1) e3 r4 h4 (by omega) (by omega))
          have V4 := Aside0.mk (fun i4 e4 (hr : r4 = some (i4, e4)) => pa_inv k1 l (m + 1) (i3 + 1) e3 i4 e4 (by rw [h4, hr]) (by omega))
          have HN := Aside0.mk hop
          have HP := Aside0.mk hp
          clear hop h4 hp
          go_wp2_with (go_at_call 139; refine (op_some H3.out sb ob m hm HS.out HO.out HN.out).mono ?_)
          rintro x w4 rfl h_ k_
          have H4 : Aside0 (IsP w0 w4 g A c l ((i3 + 1 : Nat) : Int) e3) := ⟨h_⟩
          have K4 := Aside0.mk (K3.out.trans k_)
          have L4 := Aside0.mk (L3.out.keep k_)
          clear h_ k_ q3 l0 l1 l2
          cases r4 with
          | none =>
            have hr := HP.out
            simp only [Option.some.injEq] at hr
            subst hr
            go_wp2_with (go_at_call 115; refine (par_none S4.out H4.out).mono ?_)
            rintro x w5 ⟨rfl, h_⟩
            have B5 := Aside0.mk h_
            clear h_
            go_wp2
            go_ret
            exact ⟨rfl, B5.out⟩
          | some p4 =>
            obtain ⟨i4, e4⟩ := p4
            obtain ⟨v1, v2, v3⟩ := V4.out i4 e4 rfl
            have hl4 : e4.length ≤ 1000000 := by omega
            go_wp2_with (go_at_call 115; refine (par_some S4.out H4.out).mono ?_)
            rintro x w5 ⟨rfl, h_, k_⟩
            have H5 := Aside0.mk h_
            have K5 := Aside0.mk (K4.out.trans k_)
            have L5 := Aside0.mk (L4.out.keep k_)
            clear h_ k_
            obtain ⟨A5, c5, q5⟩ := IsP.row H5.out
            have V5 := Aside0.mk (show e4.length + 1 ≤ i4 ∧ i4 ≤ l.length by omega)
            clear v1 v2 v3 V4
            go_wp2_with (go_at_call 140; refine (add_calls H5.out (nodeO o ((e3.length : Int) - 1) ((e4.length : Int) - 1)) hl4).mono ?_)
            rintro x w6 ⟨rfl, h_, k_⟩
            have H6 := Aside0.mk h_
            have K6 := Aside0.mk (K5.out.trans k_)
            have L6 := Aside0.mk (L5.out.keep k_)
            clear h_ k_ q5
            obtain ⟨sb6, ob6, l0, l1, l2, hs, ho⟩ := lev_at L6.out hm
            clear l0 l1 hs ho
            have hp := HP.out
            cases hon : (levAt m).once with
            | true =>
              rw [hon] at l2
              rw [if_pos hon] at hp
              simp only [Option.some.injEq] at hp
              subst hp
              clear hon
              go_wp2
              go_ret
              exact ⟨rfl, H6.out, K6.out⟩
            | false =>
              rw [hon] at l2
              rw [if_neg (by rw [hon]; decide)] at hp
              have HP6 := Aside0.mk hp
              clear hon hp
              go_wp2
              go_roundg k1
              case rel => exact ⟨i4, _, HP6, ⟨by have := HK.out; omega⟩, H6, K6, L6, ⟨by have := V5.out; simp only [List.length_append, List.length_singleton]; omega, V5.out.2⟩⟩
              case measure => omega
theorem par_eq {f : FuncId} {args : List Value} {w0 : World} {g : Nat} {A : Option Addr} {c : Nat} {l : List S32} {i : Nat} {e : List S156} {r r' : Option (Nat × List S156)} (h : Par f args w0 g A c l i e r) (he : r = r') : Par f args w0 g A c l i e r' := he ▸ h
theorem atom_calls {w0 : World} {g : Nat} {A : Option Addr} {c : Nat} {l : List S32} (hll : l.length ≤ 1000000) (k : Nat)
    (hsub : ∀ i e r, pa k l 0 i e = some r → e.length ≤ i → i ≤ l.length → Par 115 [.int .i64 0] w0 g A c l i e r) (i : Nat) (e : List S156) (r : Option (Nat × List S156)) (hp : pa (k + 1) l 6 i e = some r) (he : e.length ≤ i) (hi : i ≤ l.length) :
    Par 156 [] w0 g A c l i e r := by
  intro w h
  have hle : e.length ≤ 1000000 := by omega
  simp only [pa] at hp
  rw [if_pos trivial] at hp
  by_cases a1 : (nextT l i).f0 = 3
  · rw [if_pos a1] at hp
    obtain rfl := Option.some.inj hp
    exact atom_num h hle a1
  rw [if_neg a1] at hp
  by_cases a2 : (nextT l i).f0 = 4
  · rw [if_pos a2] at hp
    obtain rfl := Option.some.inj hp
    exact atom_quote h hle a2
  rw [if_neg a2] at hp
  by_cases a3 : isT (nextT l i) [⟨#[116, 114, 117, 101]⟩, ⟨#[102, 97, 108, 115, 101]⟩] = true
  · rw [if_pos a3] at hp
    obtain rfl := Option.some.inj hp
    exact atom_truth h hle a1 a2 a3
  rw [if_neg a3] at hp
  replace a3 := Bool.eq_false_iff.2 a3
  by_cases a4 : isT (nextT l i) [⟨#[105, 110]⟩] = true
  · rw [if_pos a4] at hp
    by_cases b1 : isT (nextT l (i + 1)) [⟨#[40]⟩] = true
    · rw [if_pos b1] at hp
      by_cases b2 : nameT (nextT l (i + 1 + 1)) = true
      · rw [if_pos b2] at hp
        by_cases b3 : isT (nextT l (i + 1 + 1 + 1)) [⟨#[41]⟩] = true
        · rw [if_pos b3] at hp
          obtain rfl := Option.some.inj hp
          exact atom_in4 h hle a1 a2 a3 a4 b1 b2 b3
        · rw [if_neg b3] at hp
          obtain rfl := Option.some.inj hp
          exact atom_in3 h hle a1 a2 a3 a4 b1 b2 (Bool.eq_false_iff.2 b3)
      · rw [if_neg b2] at hp
        obtain rfl := Option.some.inj hp
        exact atom_in2 h hle a1 a2 a3 a4 b1 (Bool.eq_false_iff.2 b2)
    · rw [if_neg b1] at hp
      obtain rfl := Option.some.inj hp
      exact atom_in1 h hle a1 a2 a3 a4 (Bool.eq_false_iff.2 b1)
  rw [if_neg a4] at hp
  replace a4 := Bool.eq_false_iff.2 a4
  by_cases a5 : isT (nextT l i) [⟨#[40]⟩] = true
  · rw [if_pos a5] at hp
    obtain ⟨r1, h1, hp⟩ := Option.bind_eq_some_iff.1 hp
    have hil := isT_lt a5
    have S := hsub (i + 1) e r1 h1 (by omega) (by omega)
    cases r1 with
    | none =>
      obtain rfl := Option.some.inj hp
      exact atom_paren0 h hle a1 a2 a3 a4 a5 (fun w hw => par_none S hw)
    | some p =>
      obtain ⟨i2, e2⟩ := p
      simp only at hp
      by_cases b1 : isT (nextT l i2) [⟨#[41]⟩] = true
      · rw [if_pos b1] at hp
        obtain rfl := Option.some.inj hp
        exact atom_paren2 h hle a1 a2 a3 a4 a5 (fun w hw => par_some S hw) b1
      · rw [if_neg b1] at hp
        obtain rfl := Option.some.inj hp
        exact atom_paren1 h hle a1 a2 a3 a4 a5 (fun w hw => par_some S hw) (Bool.eq_false_iff.2 b1)
  rw [if_neg a5] at hp
  replace a5 := Bool.eq_false_iff.2 a5
  by_cases a6 : nameT (nextT l i) = true
  · rw [if_pos a6] at hp
    obtain rfl := Option.some.inj hp
    exact atom_name1 h hle a1 a2 a3 a4 a5 a6
  · rw [if_neg a6] at hp
    obtain rfl := Option.some.inj hp
    exact atom_name0 h hle a1 a2 a3 a4 a5 (Bool.eq_false_iff.2 a6)
theorem unary_calls {w0 : World} {g : Nat} {A : Option Addr} {c : Nat} {l : List S32} (hll : l.length ≤ 1000000) (k : Nat)
    (hsub : ∀ i e r, pa k l 5 i e = some r → e.length ≤ i → i ≤ l.length → Par 138 [] w0 g A c l i e r) (hat : ∀ i e r, pa k l 6 i e = some r → e.length ≤ i → i ≤ l.length → Par 156 [] w0 g A c l i e r)
    (i : Nat) (e : List S156) (r : Option (Nat × List S156)) (hp : pa (k + 1) l 5 i e = some r) (he : e.length ≤ i) (hi : i ≤ l.length) : Par 138 [] w0 g A c l i e r := by
  simp only [pa] at hp
  rw [if_neg (by decide), if_pos trivial] at hp
  have hun : ∀ r1, pa k l 5 (i + 1) e = some r1 → i < l.length → ∀ i2 e2, r1 = some (i2, e2) → e2.length ≤ 1000000 := by
    intro r1 h1 hil i2 e2 hr
    have := pa_inv k l 5 (i + 1) e i2 e2 (by rw [h1, hr]) (by omega)
    omega
  by_cases a1 : isT (nextT l i) [⟨#[110, 111, 116]⟩] = true
  · rw [if_pos a1] at hp
    obtain ⟨r1, h1, hp⟩ := Option.bind_eq_some_iff.1 hp
    have hil := isT_lt a1
    refine par_eq (unary_not a1 (hsub (i + 1) e r1 h1 (by omega) (by omega)) (hun r1 h1 hil)) ?_
    cases r1 with
    | none => exact Option.some.inj hp
    | some p => exact Option.some.inj hp
  rw [if_neg a1] at hp
  replace a1 := Bool.eq_false_iff.2 a1
  by_cases a2 : isT (nextT l i) [⟨#[45]⟩] = true
  · rw [if_pos a2] at hp
    obtain ⟨r1, h1, hp⟩ := Option.bind_eq_some_iff.1 hp
    have hil := isT_lt a2
    refine par_eq (unary_neg a1 a2 (hsub (i + 1) e r1 h1 (by omega) (by omega)) (hun r1 h1 hil)) ?_
    cases r1 with
    | none => exact Option.some.inj hp
    | some p => exact Option.some.inj hp
  rw [if_neg a2] at hp
  exact unary_atom a1 (Bool.eq_false_iff.2 a2) (hat i e r hp he hi)
theorem pa_calls {w0 : World} {g : Nat} {A : Option Addr} {c : Nat} {l : List S32} (hll : l.length ≤ 1000000) (k : Nat) :
    (∀ i e r, pa k l 6 i e = some r → e.length ≤ i → i ≤ l.length → Par 156 [] w0 g A c l i e r) ∧ (∀ i e r, pa k l 5 i e = some r → e.length ≤ i → i ≤ l.length → Par 138 [] w0 g A c l i e r) ∧
    (∀ m, m ≤ 5 → ∀ i e r, pa k l m i e = some r → e.length ≤ i → i ≤ l.length → Par 115 [.int .i64 (m : Int)] w0 g A c l i e r) := by
  induction k using Nat.strongRecOn with
  | _ k ih =>
    cases k with
    | zero => exact ⟨fun i e r h => by simp [pa] at h, fun i e r h => by simp [pa] at h, fun m _ i e r h => by simp [pa] at h⟩
    | succ k =>
      have i0 := ih k (Nat.lt_succ_self k)
      have u := fun i e r => unary_calls hll k (fun i e r => i0.2.1 i e r) (fun i e r => i0.1 i e r) i e r
      refine ⟨fun i e r => atom_calls hll k (fun i e r => i0.2.2 0 (by omega) i e r) i e r, u, fun m hm i e r hp he hi => ?_⟩
      by_cases h5 : m = 5
      · subst h5
        exact binary_unary (u i e r hp he hi)
      · exact binary_calls hll k m (by omega) (fun j hj i e r h1 h2 h3 => (ih j (by omega)).2.2 (m + 1) (by omega) i e r h1 h2 h3) i e r hp he hi
end Go.Proofs.YtbngfhlciebeeaaDoor.L
end
