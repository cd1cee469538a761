/- Printed and hand-written steps towards the row (TreePlays), those that it reaches. -/
import Derived.Test.YtbngfhlciebeeaaDoorTreePlaysG4
import Derived.Lib.SliceRun
import Derived.Test.YtbngfhlciebeeaaDoorTreePlaysG20
import Derived.Test.YtbngfhlciebeeaaDoorTreePlaysG5
import Derived.Test.YtbngfhlciebeeaaDoorTreePlaysG16
section
namespace Go.Proofs.YtbngfhlciebeeaaDoor.L
set_option linter.unusedVariables false
set_option linter.unusedSimpArgs false
open Go.RowKit Go.Proofs.YtbngfhlciebeeaaDoorW.PrintWords Go.Proofs.YtbngfhlciebeeaaDoorW.PrintLast Go.Proofs.YtbngfhlciebeeaaDoorW.PrintMore
theorem size_up2 (w : World) (o : Obj) : w.heap.size ≤ (w.alloc o).heap.size := by
  rw [show (w.alloc o).heap.size = w.heap.size + 1 from by unfold World.alloc; exact Array.size_push ..]; omega
theorem empty_R {α : Type} (d : Kd α) (e : Nat) (w : World) : Kd.R d e (w.alloc (.cells #[] e)) w.heap.size (fun _ => True) (.slice (some ⟨w.heap.size, 0, none⟩) 0 0) [] :=
  ⟨fun _ _ => trivial, [], by
    have h := World.ownsRow_lit (base := w.heap.size) (e := e) (size := d.sz) w #[] 0 (Nat.le_refl _) (by simp [maxLen]) (by simp)
    simpa using h, Reps.none _ _⟩
set_option maxHeartbeats 8000000 in
set_option maxRecDepth 100000 in
theorem clone45_calls (A : Option Addr) (c : Nat) (l : List S45) (w : World) (hr : Kd.C k45 w A l.length l) (hc : l.length ≤ c) (hsz : l.length * 40 ≤ 140737488355328) :
    Calls Tryd.prog 89 #[.slice A l.length c] w fun e w' => ∃ v, e = .returned v ∧ Kd.R k45 45 w' w.heap.size (fun _ => True) v l ∧ Below w.heap.size w w' := by
  have HR := Aside0.mk hr
  clear hr
  go_enter Tryd.func89, Tryd.ntmps89
  cases A with
  | none =>
    have h0 : l = [] := by
      cases l with
      | nil => rfl
      | cons x l =>
        obtain ⟨ad, h, _⟩ := HR.out.2.2 (by simp)
        cases h
    subst h0
    go_wp2
    rw [Lib.run_eql_slice_nil _ 41 45 none _ _ _ _ Tryd.underlying41]
    simp only [Result.andThen]
    rw [Oper.upon_value]
    go_wp2
    go_ret
    exact ⟨_, rfl, Kd.R_nil _ _ _ _ _, Below.refl _ _⟩
  | some ad =>
    go_wp2
    rw [Lib.run_eql_slice_nil _ 41 45 (some ad) _ _ _ _ Tryd.underlying41]
    simp only [Result.andThen]
    rw [Oper.upon_value]
    have HO := Aside0.mk (empty_R k45 45 w)
    have HB := Aside0.mk ((Below.refl w.heap.size w).alloc (Nat.le_refl _) (.cells #[] 45))
    go_wp2_with ((with_reducible refine gate_builtin (b := .append) (xs := #[.tmp 5, .tmp 6]) rfl ?_); at_builtin; refine Kd.R_append_rows k45 (w0 := w) w.heap.size rfl (.tmp 5) (.tmp 6) 41 45 (.agg #[(.int .i64 0), (.int .i64 0), (.string ⟨#[]⟩), (.int .i64 0)]) 40 rfl Tryd.underlying41 info45 rfl (by decide) (by omega) (.slice (some ⟨w.heap.size, 0, none⟩) 0 0) [] l (some ad) l.length c (fun _ => True) (fun _ => False) rfl rfl HO.out (Kd.C_alloc HR.out _) (fun x cs hx => by rw [k45_open hx]; exact k45_mkM _ _ _ x) (fun _ hk => hk.elim) (fun _ _ => trivial) HB.out (size_up2 w _) (by simpa using hsz) ?_)
    intro v1 w1 h1 h2 _ _
    have H1 := Aside0.mk h1
    have H2 := Aside0.mk h2
    clear h1 h2 HO HB
    obtain ⟨A1, c1, rfl⟩ := Kd.R_slice H1.out
    go_wp2
    go_ret
    exact ⟨_, rfl, H1.out, H2.out⟩
theorem rows_of_C {A : Option Addr} {l : List S43} {w : World} (hr : Kd.C k43 w A l.length l) : ∃ rows : List (List Value), rows.length = l.length ∧ (∀ (j : Nat) x cs, l[j]? = some x → rows[j]? = some cs → k43.K w x cs) ∧ Kd.C (Kd.raw 4) w A l.length rows := by
  rcases Nat.eq_zero_or_pos l.length with h0 | h0
  · exact ⟨[], by rw [h0]; rfl, by simp, by rw [h0]; rfl, by omega, fun h => absurd h (by omega)⟩
  · obtain ⟨ad, eA, hc⟩ := hr.2.2 h0
    obtain ⟨rows, hl, hp⟩ := Opn.choose_list (p := fun j cs => cs.length = 4 ∧ (∀ x, l[j]? = some x → k43.K w x cs) ∧ ∀ i u, cs[i]? = some u → w.cell? (ad.add (j * 4 + i)) = some u) l.length (fun j hj => by
      obtain ⟨c, h1, h2, h3⟩ := hc j _ (List.getElem?_eq_getElem hj)
      exact ⟨c, h1, fun x hx => by rw [List.getElem?_eq_getElem hj] at hx; rw [← Option.some.inj hx]; exact h2, h3⟩)
    refine ⟨rows, hl, fun j x cs hx hcs => (hp j cs hcs).2.1 x hx, hl, hr.2.1, fun _ => ⟨ad, eA, fun j cs hcs => ?_⟩⟩
    obtain ⟨h1, h2, h3⟩ := hp j cs hcs
    refine ⟨cs, h1, ⟨rfl, h1, ?_⟩, h3⟩
    have hj : j < l.length := by rw [← hl]; exact (List.getElem?_eq_some_iff.1 hcs).1
    exact k43.K_one (h2 _ (List.getElem?_eq_getElem hj))
set_option maxHeartbeats 8000000 in
set_option maxRecDepth 100000 in
theorem clone43_calls (A : Option Addr) (c n : Nat) (rows : List (List Value)) (hn : rows.length = n) (w : World) (hr : Kd.C (Kd.raw 4) w A n rows) (hc : n ≤ c) (hsz : n * 48 ≤ 140737488355328) :
    Calls Tryd.prog 88 #[.slice A n c] w fun e w' => ∃ v, e = .returned v ∧ Kd.R (Kd.raw 4) 43 w' w.heap.size (fun _ => True) v rows ∧ Below w.heap.size w w' := by
  subst hn
  have HR := Aside0.mk hr
  clear hr
  go_enter Tryd.func88, Tryd.ntmps88
  cases A with
  | none =>
    have h0 : rows = [] := by
      cases rows with
      | nil => rfl
      | cons x l =>
        obtain ⟨ad, h, _⟩ := HR.out.2.2 (by simp)
        cases h
    subst h0
    go_wp2
    rw [Lib.run_eql_slice_nil _ 40 43 none _ _ _ _ Tryd.underlying40]
    simp only [Result.andThen]
    rw [Oper.upon_value]
    go_wp2
    go_ret
    exact ⟨_, rfl, Kd.R_nil _ _ _ _ _, Below.refl _ _⟩
  | some ad =>
    go_wp2
    rw [Lib.run_eql_slice_nil _ 40 43 (some ad) _ _ _ _ Tryd.underlying40]
    simp only [Result.andThen]
    rw [Oper.upon_value]
    have HO := Aside0.mk (empty_R (Kd.raw 4) 43 w)
    have HB := Aside0.mk ((Below.refl w.heap.size w).alloc (Nat.le_refl _) (.cells #[] 43))
    go_wp2_with ((with_reducible refine gate_builtin (b := .append) (xs := #[.tmp 5, .tmp 6]) rfl ?_); at_builtin; refine Kd.R_append_rows (Kd.raw 4) (w0 := w) w.heap.size rfl (.tmp 5) (.tmp 6) 40 43 (.agg #[(.int .i64 0), (.int .i64 0), (.int .i64 0), (.slice none 0 0)]) 48 rfl Tryd.underlying40 info43 rfl (by decide) (by omega) (.slice (some ⟨w.heap.size, 0, none⟩) 0 0) [] rows (some ad) rows.length c (fun _ => True) (fun _ => False) rfl rfl HO.out (Kd.C_alloc HR.out _) (fun x cs hx => hx) (fun _ hk => hk.elim) (fun _ _ => trivial) HB.out (size_up2 w _) (by simpa using hsz) ?_)
    intro v1 w1 h1 h2 _ _
    have H1 := Aside0.mk h1
    have H2 := Aside0.mk h2
    clear h1 h2 HO HB
    obtain ⟨A1, c1, rfl⟩ := Kd.R_slice H1.out
    go_wp2
    go_ret
    exact ⟨_, rfl, H1.out, H2.out⟩
def tree_Tree_Copy.f (l : List S43) : Option (List S43) := if l.length * 48 ≤ 140737488355328 ∧ (∀ x ∈ l, x.f3.length * 40 ≤ 140737488355328) then some l else none
def Copied (w : World) (l : List S43) (v : Value) (j : Nat) (rows : List (List Value)) (f : Nat → Nat) (wr : World) : Prop :=
  rows.length = l.length ∧ (∀ (k : Nat) x cs, j ≤ k → l[k]? = some x → rows[k]? = some cs → k43.K w x cs) ∧
  (∀ (k : Nat) x, k < j → l[k]? = some x → ∃ u, rows[k]? = some [.int .i64 x.f0, .int .i64 x.f1, .int .i64 x.f2, u] ∧ Kd.R k45 45 wr w.heap.size (fun b => some b ≠ v.ownBlock ∧ f b = k) u x.f3) ∧
  Kd.R (Kd.raw 4) 43 wr w.heap.size (fun _ => True) v rows ∧ Below w.heap.size w wr
theorem R45_ok {w : World} {base : Nat} {ok ok' : Nat → Prop} {v : Value} {xs : List S45} (h : Kd.R k45 45 w base ok v xs) (h' : ∀ k, v.ownBlock = some k → ok' k) : Kd.R k45 45 w base ok' v xs :=
  ⟨h', h.2.imp_ (fun p c hp => by rw [k45_openM hp]; exact k45_mkM _ _ _ p)⟩
theorem copied_step {w wr w2 : World} {l : List S43} {g c1 j base3 : Nat} {rs : List (List Value)} {f : Nat → Nat} {v3 : Value} {A3 : Option Addr} {c3 : Nat}
    (hQ : Copied w l (.slice (some ⟨g, 0, none⟩) l.length c1) j rs f wr) (hl : j < l.length) (hb : Below wr.heap.size wr w2) (h3 : Kd.R k45 45 w2 base3 (fun _ => True) v3 l[j].f3) (hbase : wr.heap.size ≤ base3) (h1 : v3.oneCell' = true)
    (hcs : rs[j]? = some [.int .i64 l[j].f0, .int .i64 l[j].f1, .int .i64 l[j].f2, .slice A3 l[j].f3.length c3]) :
    Copied w l (.slice (some ⟨g, 0, none⟩) l.length c1) (j + 1) (rs.set j [.int .i64 l[j].f0, .int .i64 l[j].f1, .int .i64 l[j].f2, v3]) (fun b => if v3.ownBlock = some b then j else f b) (w2.setCell ⟨g, j * 4 + 3, none⟩ v3) := by
  obtain ⟨q1, q2, q3, q4, q5⟩ := hQ
  have hjr : j < rs.length := by omega
  have hgl : g < wr.heap.size := Kd.R_lt q4 g rfl
  have hgb : w.heap.size ≤ g := Kd.R_base q4 g rfl
  have h3b : ∀ k, v3.ownBlock = some k → wr.heap.size ≤ k := fun k hk => Nat.le_trans hbase (Kd.R_base h3 k hk)
  have hown : (Value.slice (some ⟨g, 0, none⟩) l.length c1).ownBlock = some g := rfl
  refine ⟨by rw [List.length_set]; exact q1, fun k x cs hk hx hcs' => ?_, fun k x hk hx => ?_, ?_, ?_⟩
  · rw [List.getElem?_set_ne (by omega)] at hcs'
    exact q2 k x cs (by omega) hx hcs'
  · by_cases hkj : k = j
    · subst hkj
      rw [List.getElem?_eq_getElem hl] at hx
      obtain rfl := Option.some.inj hx
      refine ⟨v3, List.getElem?_set_self hjr, ?_⟩
      have h4 : Kd.R k45 45 w2 w.heap.size (fun b => some b ≠ (Value.slice (some ⟨g, 0, none⟩) l.length c1).ownBlock ∧ (fun b => if v3.ownBlock = some b then k else f b) b = k) v3 l[k].f3 := by
        refine R45_ok (Kd.R_lower h3 (by omega)) (fun b hb2 => ⟨?_, ?_⟩)
        · rw [hown]; intro e; have := h3b b hb2; have := Option.some.inj e; omega
        · simp [hb2]
      exact Kd.R_far h4 (fun b hb2 e => hb2.1 (by rw [hown, e])) v3
    · obtain ⟨u, hu, hR⟩ := q3 k x (by omega) hx
      refine ⟨u, by rw [List.getElem?_set_ne (by omega)]; exact hu, ?_⟩
      have hlt := Kd.R_lt hR
      have h4 : Kd.R k45 45 w2 w.heap.size (fun b => some b ≠ (Value.slice (some ⟨g, 0, none⟩) l.length c1).ownBlock ∧ (fun b => if v3.ownBlock = some b then j else f b) b = k) u x.f3 := by
        refine R45_ok (Kd.R_below hR hb) (fun b hb2 => ⟨(hR.1 b hb2).1, ?_⟩)
        have h5 := hlt b hb2
        show (if v3.ownBlock = some b then j else f b) = k
        rw [if_neg (fun e => by have := h3b b e; omega)]
        exact (hR.1 b hb2).2
      exact Kd.R_far h4 (fun b hb2 e => hb2.1 (by rw [hown, e])) v3
  · have hseg := Kd.R_seg (Kd.R_below q4 hb) (j : Int) (by omega) (by omega) (c := [.int .i64 l[j].f0, .int .i64 l[j].f1, .int .i64 l[j].f2, .slice A3 l[j].f3.length c3]) (seg := [v3]) (j := 3) (okp := fun _ => False) rfl (by
      obtain ⟨cc, hcl, hcM, hcell, hfrz⟩ := Kd.R_elem (Kd.R_below q4 hb) [] (j : Int) (by omega) (by omega)
      rw [Int.toNat_natCast, List.getD_eq_getElem?_getD, hcs] at hcM
      obtain ⟨rfl, _, _⟩ := hcM
      exact hcell) (show 3 + 1 ≤ 4 from Nat.le_refl _) (x' := [.int .i64 l[j].f0, .int .i64 l[j].f1, .int .i64 l[j].f2, v3]) ⟨rfl, rfl, by
        intro u hu
        have hu : u ∈ ([.int .i64 l[j].f0, .int .i64 l[j].f1, .int .i64 l[j].f2, v3] : List Value) := hu
        simp only [List.mem_cons, List.not_mem_nil, or_false] at hu
        rcases hu with rfl | rfl | rfl | rfl
        · rfl
        · rfl
        · rfl
        · exact h1⟩ (fun _ hk => hk.elim)
    have h6 := hseg.1
    rw [Int.toNat_natCast] at h6
    exact h6
  · exact below_set (below_step q5 hb) hgb
theorem copied_end {w wr : World} {l : List S43} {v : Value} {rs : List (List Value)} {f : Nat → Nat} (hQ : Copied w l v l.length rs f wr) : Kd.S k43 43 wr w.heap.size (fun _ => True) v l := by
  obtain ⟨q1, q2, q3, q4, q5⟩ := hQ
  obtain ⟨h0, inner, ho, hr⟩ := q4
  refine ⟨f, fun _ _ => trivial, inner, by rw [List.length_zipIdx, ← q1]; exact ho, by rw [List.length_zipIdx, ← q1]; exact hr.1, fun j p hp => ?_⟩
  obtain ⟨x, k⟩ := p
  rw [List.getElem?_zipIdx, Nat.zero_add] at hp
  obtain ⟨x', hx', e⟩ := Option.map_eq_some_iff.1 hp
  obtain ⟨rfl, rfl⟩ := Prod.mk.inj e
  have hj : j < l.length := (List.getElem?_eq_some_iff.1 hx').1
  obtain ⟨u, hu, hR⟩ := q3 j x' hj hx'
  obtain ⟨hM, _, _⟩ := hr.2 j _ hu
  show k43.M wr w.heap.size _ x' ((inner.drop (j * (Kd.raw 4).sz)).take (Kd.raw 4).sz)
  rw [hM]
  exact k43_mkM _ _ _ _ (R45_ok hR (fun b hb => ⟨⟨trivial, (hR.1 b hb).1⟩, (hR.1 b hb).2⟩))
set_option maxHeartbeats 8000000 in
set_option maxRecDepth 100000 in
theorem tree_Tree_Copy.calls (A0 : Option Addr) (c0 : Nat) (l0 : List S43) (r : List S43) (w : World) (hr0 : Kd.C k43 w A0 l0.length l0) (hc0 : l0.length ≤ c0) (h : tree_Tree_Copy.f l0 = some r) :
    Calls Tryd.prog 50 #[.slice A0 l0.length c0] w fun e w' => ∃ v0_ : Value, e = .returned v0_ ∧ Kd.S k43 43 w' w.heap.size (fun _ => True) v0_ r ∧ Below w.heap.size w w' := by
  unfold tree_Tree_Copy.f at h
  split at h
  · rename_i hsz
    obtain rfl := Option.some.inj h
    clear h
    obtain ⟨hs1, hs2⟩ := hsz
    have HN := hr0.2.1
    obtain ⟨rows, hrl, hrK, hrC⟩ := rows_of_C hr0
    have HR0 := Aside0.mk hr0
    have HK := Aside0.mk hrK
    have HS2 := Aside0.mk hs2
    clear hr0 hrK hs2
    have HC := Aside0.mk hrC
    clear hrC
    go_enter Tryd.func50, Tryd.ntmps50
    go_wp2_with (go_at_call 88; refine (clone43_calls A0 c0 l0.length rows hrl _ HC.out hc0 hs1).mono ?_)
    rintro e w1 ⟨v, rfl, h1, h2⟩
    have H1 := Aside0.mk h1
    have H2 := Aside0.mk h2
    clear h1 h2
    obtain ⟨A1, c1, hv⟩ := Kd.R_slice H1.out
    rw [hrl] at hv
    subst hv
    go_wp2
    go_loopg [10] l0.length (fun kq v10 w' => ∃ (j : Nat) (rs : List (List Value)) (f : Nat → Nat), v10 = .int .i64 (j : Int) ∧ Aside0 (kq = l0.length - j) ∧ Aside0 (j ≤ l0.length) ∧ Aside0 (Copied w l0 (.slice A1 l0.length c1) j rs f w'))
    case atStart => exact ⟨0, rows, fun _ => 0, rfl, ⟨rfl⟩, ⟨Nat.zero_le _⟩, ⟨hrl, fun k x cs _ => HK.out k x cs, fun k x hk => absurd hk (by omega), H1.out, H2.out⟩⟩
    case round =>
      obtain ⟨j, rs, f, rfl, hk, hj, HQ⟩ := hrel
      clear H1 H2 HC
      by_cases hl : j < l0.length
      · have c2 : decide ((j : Int) < (l0.length : Int)) = true := decide_eq_true (by omega)
        obtain ⟨q1, q2, q3, q4, q5⟩ := HQ.out
        obtain ⟨g, rfl⟩ : ∃ g, A1 = some ⟨g, 0, none⟩ := by
          obtain ⟨ad, h, _⟩ := (Kd.R_reads' q4).2.2.2.2 (by omega)
          subst h
          obtain ⟨g, rfl⟩ := Kd.R_head q4
          exact ⟨g, rfl⟩
        have hjr : j < rs.length := by omega
        have hxj : l0[j]? = some l0[j] := List.getElem?_eq_getElem hl
        obtain ⟨A3, c3, hcs, hl3, hr3⟩ := k43_open (q2 j l0[j] rs[j] (Nat.le_refl _) hxj (List.getElem?_eq_getElem hjr))
        obtain ⟨cc, hcl, hcM, hcell, hfrz⟩ := Kd.R_elem q4 [] (j : Int) (by omega) (by omega)
        rw [Int.toNat_natCast] at hcM hcell hfrz
        rw [show rs.getD j [] = rs[j] from by rw [List.getD_eq_getElem?_getD, List.getElem?_eq_getElem hjr]; rfl, hcs] at hcM
        obtain ⟨rfl, _, _⟩ := hcM
        have g0 : wr.cell? ⟨g, j * 4, none⟩ = some (.int .i64 l0[j].f0) := hcell 0 _ rfl
        have g1 : wr.cell? ⟨g, j * 4 + 1, none⟩ = some (.int .i64 l0[j].f1) := hcell 1 _ rfl
        have g2 : wr.cell? ⟨g, j * 4 + 2, none⟩ = some (.int .i64 l0[j].f2) := hcell 2 _ rfl
        have g3 : wr.cell? ⟨g, j * 4 + 3, none⟩ = some (.slice A3 l0[j].f3.length c3) := hcell 3 _ rfl
        have HR3 := Aside0.mk (Kd.C_alloc (Kd.C_below hr3 q5) (.cells #[.int .i64 l0[j].f0, .int .i64 l0[j].f1, .int .i64 l0[j].f2, .slice A3 l0[j].f3.length c3] 43))
        have HS3 := HS2.out l0[j] (List.getElem_mem hl)
        have BA := Aside0.mk (below_alloc (Below.refl wr.heap.size wr) (.cells #[.int .i64 l0[j].f0, .int .i64 l0[j].f1, .int .i64 l0[j].f2, .slice A3 l0[j].f3.length c3] 43))
        clear hcell hfrz hr3 q1 q2 q3 q4 q5
        go_wp2_with (go_at_call 89; refine (clone45_calls A3 c3 l0[j].f3 _ HR3.out hl3 HS3).mono ?_)
        rintro e w2 ⟨v3, rfl, h3, b3⟩
        have H3 := Aside0.mk h3
        have B3 := Aside0.mk (below_step BA.out b3)
        clear h3 b3 g0 g1 g2 g3 BA HR3
        obtain ⟨q1, q2, q3, q4, q5⟩ := HQ.out
        have q4b := Kd.R_below q4 B3.out
        obtain ⟨cc, hcl, hcM, hcell, hfrz⟩ := Kd.R_elem q4b [] (j : Int) (by omega) (by omega)
        rw [Int.toNat_natCast] at hcM hcell hfrz
        rw [show rs.getD j [] = rs[j] from by rw [List.getD_eq_getElem?_getD, List.getElem?_eq_getElem hjr]; rfl, hcs] at hcM
        obtain ⟨rfl, _, _⟩ := hcM
        have g3 : w2.cell? ⟨g, j * 4 + 3, none⟩ = some (.slice A3 l0[j].f3.length c3) := hcell 3 _ rfl
        have z3 : w2.frozen? ⟨g, j * 4 + 3, none⟩ = false := hfrz 3
        obtain ⟨Av, cv, hv3⟩ := Kd.R_slice H3.out
        subst hv3
        have hone : (Value.slice Av l0[j].f3.length cv).oneCell' = true := rfl
        have HQ2 := Aside0.mk (copied_step HQ.out hl B3.out H3.out (size_up2 wr _) hone (by rw [List.getElem?_eq_getElem hjr, hcs]))
        go_wp2
        go_roundg (l0.length - (j + 1))
        case rel => exact ⟨j + 1, _, _, rfl, ⟨rfl⟩, ⟨hl⟩, HQ2⟩
        case measure => have := hk.out; omega
      · have c2 : decide ((j : Int) < (l0.length : Int)) = false := decide_eq_false (by omega)
        have hjn : j = l0.length := by have := hj.out; omega
        subst hjn
        go_wp2
        go_ret
        exact ⟨_, rfl, copied_end HQ.out, HQ.out.2.2.2.2⟩
  · cases h
end Go.Proofs.YtbngfhlciebeeaaDoor.L
end
section
namespace Go.Proofs.YtbngfhlciebeeaaDoor.L
open Go.RowKit Go.Proofs.YtbngfhlciebeeaaDoorW.PrintWords Go.Proofs.YtbngfhlciebeeaaDoorW.PrintLast Go.Proofs.YtbngfhlciebeeaaDoorW.PrintMore
attribute [local go_sem] max2_int min2_int max_two min_two max_three min_three max_four min_four   -- for this text's walks alone
set_option linter.unusedVariables false
set_option linter.unusedSimpArgs false
def tree_Tree_Grow.f (l0 : List (S43)) (a1 : Int) : Option ((List (S43)) × Int) := (tree_Tree_has.f l0 a1).bind fun t367 => (if t367 = true then (if 0 ≤ a1 then (if a1 < (l0.length : Int) then (if ((rd_T43 l0 a1).f2) ≥ 512 then ((tree_Tree_Copy.f l0).bind fun t369 => (some (t369, 41))) else ((tree_Tree_Copy.f l0).bind fun t372 => (if a1 < (t372.length : Int) then (some ((t372.set (a1 : Int).toNat (⟨(rd_T43 t372 a1).f0, (rd_T43 t372 a1).f1, wrap64 (((rd_T43 t372 a1).f2) + 1), (rd_T43 t372 a1).f3⟩ : S43)), 0)) else (none)))) else (none)) else (none)) else ((tree_Tree_Copy.f l0).bind fun t377 => (some (t377, 12))))
set_option maxHeartbeats 8000000 in
set_option maxRecDepth 100000 in
theorem tree_Tree_Grow.calls (A0 : Option Addr) (c0 : Nat) (l0 : List (S43)) (a1 : Int) (r1 : List (S43)) (r2 : Int) (w : World) (hr0 : Kd.C k43 w A0 l0.length l0) (hc0 : l0.length ≤ c0) (h : tree_Tree_Grow.f l0 a1 = some (r1, r2)) :
  Calls Tryd.prog 40 #[.slice A0 l0.length c0, .int .i64 a1] w fun e w' => ∃ v0_ : Value, e = .returned (.tuple #[v0_, .int .i64 r2]) ∧ Kd.S k43 43 w' w.heap.size (fun _ => True) v0_ r1 ∧ Below w.heap.size w w' := by
 have HR0 := Aside0.mk hr0
 have HC0 := Aside0.mk hc0
 clear hr0 hc0
 have HB := Aside0.mk (Below.refl w.heap.size w)
 have H : ((tree_Tree_has.f l0 a1).bind fun t367 => (if t367 = true then (if 0 ≤ a1 then (if a1 < (l0.length : Int) then (if ((rd_T43 l0 a1).f2) ≥ 512 then ((tree_Tree_Copy.f l0).bind fun t369 => (some (t369, 41))) else ((tree_Tree_Copy.f l0).bind fun t372 => (if a1 < (t372.length : Int) then (some ((t372.set (a1 : Int).toNat (⟨(rd_T43 t372 a1).f0, (rd_T43 t372 a1).f1, wrap64 (((rd_T43 t372 a1).f2) + 1), (rd_T43 t372 a1).f3⟩ : S43)), 0)) else (none)))) else (none)) else (none)) else ((tree_Tree_Copy.f l0).bind fun t377 => (some (t377, 12))))) = some (r1, r2) := h
 clear h
 replace H := Option.bind_eq_some_iff.mp H
 obtain ⟨t367, A30, H⟩ := H
 (try dsimp -simprocs only at H)
 have A3 := Aside0.mk A30
 clear A30
 by_cases c4 : t367 = true
 ·subst c4
  rw [if_pos rfl] at H
  replace H := iD H
  rcases H with ⟨c5b0, H⟩ | ⟨c5b0, H⟩
  ·by_cases c6 : a1 < (l0.length : Int)
   ·rw [if_pos c6] at H
    have c6b0 := decide_eq_true c6
    clear c6
    replace H := iD H
    rcases H with ⟨c7b0, H⟩ | ⟨c7b0, H⟩
    ·replace H := Option.bind_eq_some_iff.mp H; obtain ⟨t369, A80, H⟩ := H; (try dsimp -simprocs only at H); have A8 := Aside0.mk A80; clear A80; simp only [Option.some.injEq, Prod.mk.injEq] at H; obtain ⟨rfl, rfl⟩ := H
     go_enter Tryd.func40, Tryd.ntmps40
     go_wp2_with (first | ((with_reducible refine gc 80 rfl ?_); refine gl (some 10) #[.slice A0 l0.length c0, .int .i64 a1] Tryd.func80 ?_; (with_reducible refine (tree_Tree_has.calls _ _ l0 a1 true _ ?side1 ?side2 A3.out).mono ?_); (case side1 => repeat (first | exact HR0.out | (with_reducible refine Kd.C_alloc ?_ _) | (with_reducible refine Kd.C_drewN ?_ _) | (with_reducible refine Kd.C_drew ?_))); (case side2 => exact HC0.out); rintro e w' ⟨rfl, ⟨nd, rfl⟩⟩; refine ⟨_, rfl, ?_⟩; have p368 : 0 ≤ (a1 : Int) := qD; have q368 : a1 < (l0.length : Int) := qD; obtain ⟨ad368, A368_3, c368_3, e368, hx368_0, hx368_1, hx368_2, hx368_3, hl368_3, hi368_3⟩ := at_T43 HR0.out a1 p368 q368; cases e368; have HR368_3 := Aside0.mk hi368_3; have HC368_3 := Aside0.mk hl368_3; clear hi368_3 hl368_3; replace p368 := eq_true p368; replace q368 := eq_true q368) | ((with_reducible refine gc 50 rfl ?_); refine gl (some 22) #[.slice (some ad368) l0.length c0] Tryd.func50 ?_; (with_reducible refine (tree_Tree_Copy.calls _ _ l0 t369 _ ?side1 ?side2 A8.out).mono ?_); (case side1 => repeat (first | exact HR0.out | (with_reducible refine Kd.C_alloc ?_ _) | (with_reducible refine Kd.C_drewN ?_ _) | (with_reducible refine Kd.C_drew ?_))); (case side2 => exact HC0.out); rintro e w9 ⟨v370, rfl, ho0, hb⟩; refine ⟨_, rfl, ?_⟩; have HO371 := Aside0.mk (Kd.S_lower ho0 (below_size qB)); replace HB := bst hb; (try clear hb); (try clear ho0)))
     go_ret2; exact ⟨_, qR, by (with_reducible repeat (first | apply Kd.S_alloc | apply Kd.S_drewN | apply Kd.S_drew)); exact HO371.out, qB⟩
    replace H := Option.bind_eq_some_iff.mp H
    obtain ⟨t372, A100, H⟩ := H
    (try dsimp -simprocs only at H)
    have A10 := Aside0.mk A100
    clear A100
    replace H := iD H
    rcases H with ⟨c11b0, H⟩ | ⟨c11b0, H⟩
    ·obtain ⟨y376, hy376⟩ : ∃ y_ : List (S43), y_ = (t372.set (a1 : Int).toNat (⟨(rd_T43 t372 a1).f0, (rd_T43 t372 a1).f1, wrap64 (((rd_T43 t372 a1).f2) + 1), (rd_T43 t372 a1).f3⟩ : S43)) := ⟨_, rfl⟩; replace H : (some (y376, 0)) = some (r1, r2) := by first | (rw [hy376]; with_reducible exact H) | (have H2_ := (Option.bind_some _ _).symm.trans H; rw [hy376]; with_reducible exact H2_) | (have H2_ := (Option.bind_some _ _).symm.trans H; with_reducible exact H2_) | with_reducible exact H | (rw [hy376]; exact H) | exact H
     have Ny376 := Aside0.mk hy376; clear hy376; simp only [Option.some.injEq, Prod.mk.injEq] at H; obtain ⟨rfl, rfl⟩ := H
     go_enter Tryd.func40, Tryd.ntmps40
     go_wp2_with (first | ((with_reducible refine gc 80 rfl ?_); refine gl (some 10) #[.slice A0 l0.length c0, .int .i64 a1] Tryd.func80 ?_; (with_reducible refine (tree_Tree_has.calls _ _ l0 a1 true _ ?side1 ?side2 A3.out).mono ?_); (case side1 => repeat (first | exact HR0.out | (with_reducible refine Kd.C_alloc ?_ _) | (with_reducible refine Kd.C_drewN ?_ _) | (with_reducible refine Kd.C_drew ?_))); (case side2 => exact HC0.out); rintro e w' ⟨rfl, ⟨nd, rfl⟩⟩; refine ⟨_, rfl, ?_⟩; have p368 : 0 ≤ (a1 : Int) := qD; have q368 : a1 < (l0.length : Int) := qD; obtain ⟨ad368, A368_3, c368_3, e368, hx368_0, hx368_1, hx368_2, hx368_3, hl368_3, hi368_3⟩ := at_T43 HR0.out a1 p368 q368; cases e368; have HR368_3 := Aside0.mk hi368_3; have HC368_3 := Aside0.mk hl368_3; clear hi368_3 hl368_3; replace p368 := eq_true p368; replace q368 := eq_true q368) | ((with_reducible refine gc 50 rfl ?_); refine gl (some 24) #[.slice (some ad368) l0.length c0] Tryd.func50 ?_; (with_reducible refine (tree_Tree_Copy.calls _ _ l0 t372 _ ?side1 ?side2 A10.out).mono ?_); (case side1 => repeat (first | exact HR0.out | (with_reducible refine Kd.C_alloc ?_ _) | (with_reducible refine Kd.C_drewN ?_ _) | (with_reducible refine Kd.C_drew ?_))); (case side2 => exact HC0.out); rintro e w13 ⟨v373, rfl, ho0, hb⟩; refine ⟨_, rfl, ?_⟩; have HO374 := Aside0.mk (Kd.S_lower ho0 (below_size qB)); replace HB := bst hb; (try clear hb); (try clear ho0); obtain ⟨Ao14, co14, eo14⟩ := Kd.S_slice HO374.out; subst eo14; have p375 : 0 ≤ (a1 : Int) := qD; have q375 : a1 < (t372.length : Int) := qD; obtain ⟨ad375, A375_3, c375_3, e375, hx375_0, hx375_1, hx375_2, hx375_3, hl375_3, hi375_3⟩ := at_T43 (Kd.S_reads' HO374.out).2.2 a1 p375 q375; cases e375; obtain ⟨ce375, hce375, hMe375, hcc375⟩ := Kd.S_get HO374.out z43 a1 p375 (by first | exact q375 | exact qD | (have e_ := (Kd.S_reads' HO374.out).1; omega)); obtain ⟨ve375_3, rfl, ge375_3⟩ := k43_openM hMe375; have hv375_3 := hcc375 3 _ rfl; rw [add_field _ _ 3 (by omega)] at hv375_3; replace hv375_3 := Option.some.inj (hv375_3.symm.trans hx375_3); rw [hv375_3] at ge375_3; have HL375_3 := Aside0.mk (show Kd.R k45 45 _ _ _ _ ((rd_T43 t372 a1).f3) from ge375_3); clear hv375_3 ge375_3; clear hcc375 hce375; have HR375_3 := Aside0.mk hi375_3; have HC375_3 := Aside0.mk hl375_3; clear hi375_3 hl375_3; replace p375 := eq_true p375; replace q375 := eq_true q375; have p12 : 0 ≤ (a1 : Int) := qD; have q12 : (a1 : Int) < ((t372.length : Int) : Int) := qD; obtain ⟨go12, co12, eo12, gb12, gl12, cl12, HG12⟩ := Kd.S_form HO374.out (by omega); (first | cases eo12 | (injection eo12 with ea_ en_ ec_; (first | subst ea_ | (injection ea_ with ea_; subst ea_)); subst ec_; clear en_)); have GB12 := Aside0.mk gb12; have GG12 := Aside0.mk HG12; clear gb12 gl12 HG12; (first | simp only [add_plain] at hx375_0 | skip); (first | simp only [add_plain] at hx375_1 | skip); (first | simp only [add_plain] at hx375_2 | skip); (first | simp only [add_plain] at hx375_3 | skip); obtain ⟨_, ce12, hcl12, hM12, hcc12, hfr12, _, _⟩ := Kd.S_elem HO374.out z43 (a1 : Int) p12 q12; obtain ⟨ve12_3, rfl, ge12_3⟩ := k43_openM hM12; have hx12_0 : w13.cell? ⟨go12, (a1 : Int).toNat * 4, none⟩ = some (.int .i64 ((rd_T43 t372 a1).f0)) := hcc12 0 _ rfl; have hx12_1 : w13.cell? ⟨go12, (a1 : Int).toNat * 4 + 1, none⟩ = some (.int .i64 ((rd_T43 t372 a1).f1)) := hcc12 1 _ rfl; have hx12_2 : w13.cell? ⟨go12, (a1 : Int).toNat * 4 + 2, none⟩ = some (.int .i64 ((rd_T43 t372 a1).f2)) := hcc12 2 _ rfl; have hx12_3 : w13.cell? ⟨go12, (a1 : Int).toNat * 4 + 3, none⟩ = some (ve12_3) := hcc12 3 _ rfl; have hf12_0 : w13.frozen? ⟨go12, (a1 : Int).toNat * 4, none⟩ = false := hfr12 0; have hf12_1 : w13.frozen? ⟨go12, (a1 : Int).toNat * 4 + 1, none⟩ = false := hfr12 1; have hf12_2 : w13.frozen? ⟨go12, (a1 : Int).toNat * 4 + 2, none⟩ = false := hfr12 2; have hf12_3 : w13.frozen? ⟨go12, (a1 : Int).toNat * 4 + 3, none⟩ = false := hfr12 3; clear hcl12 hcc12 hfr12 hM12; replace p12 := eq_true p12; replace q12 := eq_true q12; have HX15 := Aside0.mk (show Kd.S k43 43 w13 w.heap.size (fun k_ => ((fun _ => True)) k_ ∧ ¬ ((fun _ => False)) k_) (.slice (some ⟨go12, 0, none⟩) t372.length co14) t372 from (by (with_reducible repeat (first | apply Kd.S_alloc | apply Kd.S_drewN | apply Kd.S_drew)); exact Kd.S_mono HO374.out (fun k_ hk => ⟨trivial, fun e_ => e_⟩))); obtain ⟨oki15, ce15, hcl15, hM15, hcc15, hfr15, hoki15, hH15⟩ := Kd.S_elem HX15.out z43 (a1 : Int) (qD) (by have h_ : (a1 : Int) < ((t372.length : Int) : Int) := qD; first | exact h_ | (have e_ := (Kd.S_reads' HO374.out).1; omega) | simpa using h_); obtain ⟨ve15_3, rfl, ge15_3⟩ := k43_openM hM15; have HP15 := Kd.S_seg hH15 (qD) (by have h_ : (a1 : Int) < ((t372.length : Int) : Int) := qD; first | exact h_ | (have e_ := (Kd.S_reads' HO374.out).1; omega) | simpa using h_) (seg := [.int .i64 (wrap64 (((rd_T43 t372 a1).f2) + 1))]) (j := 2) (show 3 ≤ 4 from by decide) (x' := (⟨(rd_T43 t372 a1).f0, (rd_T43 t372 a1).f1, wrap64 (((rd_T43 t372 a1).f2) + 1), (rd_T43 t372 a1).f3⟩ : S43)) (k43_mkM _ _ _ (⟨(rd_T43 t372 a1).f0, (rd_T43 t372 a1).f1, wrap64 (((rd_T43 t372 a1).f2) + 1), (rd_T43 t372 a1).f3⟩ : S43) (Kd.R_mono ge15_3 (fun _ h_ => Or.inl h_))) (fun _ hk => hk) (fun k_ hk_ => hk_.elim); have hx15_2 := hcc15 2 _ rfl; (try simp only [show (k43).sz = 4 from rfl, Nat.mul_one, Nat.add_zero] at hx15_2); have hf15_2 := hfr15 2; (try simp only [show (k43).sz = 4 from rfl, Nat.mul_one, Nat.add_zero] at hf15_2); clear hcl15 hcc15 hfr15 hM15 hoki15 hH15) | ((with_reducible refine gate_store (t := 3) (p := 32) rfl ?_); refine store_event (t := 3) (p := 32) (v := ?vo_w16) (w1 := (w13.setCell ⟨go12, (a1 : Int).toNat * 4 + 2, none⟩ (.int .i64 (wrap64 (((rd_T43 t372 a1).f2) + 1))))) ?hg ?ho ?hn ?hr ?_; (case ho => rfl); (case hg => rfl); (case hn => rfl); (case hr => first | (go_simp; done) | (go_simp; rfl)); intro w16 hw; have hg : w13.grownBy w16 (some go12) := (by rw [hw]; exact HP15.2); have hp_ : Kd.S k43 43 w16 w.heap.size (fun _ => True) (.slice (some ⟨go12, 0, none⟩) t372.length co14) y376 := (by rw [hw, Ny376.out]; exact HP15.1); clear HP15; have n0_ := Aside0.mk (hp_); have n1_ := Aside0.mk (Kd.R_after (v := (.slice (some ⟨go12, 0, none⟩) t372.length co14)) (v1 := (.slice (some ⟨go12, 0, none⟩) t372.length co14)) (ok := (fun _ => True)) (by (with_reducible repeat (first | apply Kd.R_alloc | apply Kd.R_drewN | apply Kd.R_drew)); exact HL375_3.out) hg (.inl rfl)); have n2_ := Aside0.mk ((by rw [hw]; exact below_set (HB.out) GB12.out : Below w.heap.size w w16)); clear HO374; clear HL375_3; clear HB; have HO374 := n0_; have HL375_3 := n1_; have HB := n2_; clear n0_ n1_ n2_; clear hg hw hp_))
     go_ret2; exact ⟨_, qR, by (with_reducible repeat (first | apply Kd.S_alloc | apply Kd.S_drewN | apply Kd.S_drew)); exact HO374.out, qB⟩
    exact absurd H (by simp)
   rw [if_neg c6] at H
   exact absurd H (by simp)
  exact absurd H (by simp)
 replace c4 := Bool.eq_false_iff.mpr c4
 subst c4
 rw [if_neg (show ¬ (false = true) by decide)] at H
 replace H := Option.bind_eq_some_iff.mp H
 obtain ⟨t377, A170, H⟩ := H
 (try dsimp -simprocs only at H)
 have A17 := Aside0.mk A170
 clear A170
 simp only [Option.some.injEq, Prod.mk.injEq] at H
 obtain ⟨rfl, rfl⟩ := H
 go_enter Tryd.func40, Tryd.ntmps40
 go_wp2_with (first | ((with_reducible refine gc 80 rfl ?_); refine gl (some 10) #[.slice A0 l0.length c0, .int .i64 a1] Tryd.func80 ?_; (with_reducible refine (tree_Tree_has.calls _ _ l0 a1 false _ ?side1 ?side2 A3.out).mono ?_); (case side1 => repeat (first | exact HR0.out | (with_reducible refine Kd.C_alloc ?_ _) | (with_reducible refine Kd.C_drewN ?_ _) | (with_reducible refine Kd.C_drew ?_))); (case side2 => exact HC0.out); rintro e w' ⟨rfl, ⟨nd, rfl⟩⟩; refine ⟨_, rfl, ?_⟩) | ((with_reducible refine gc 50 rfl ?_); refine gl (some 13) #[.slice A0 l0.length c0] Tryd.func50 ?_; (with_reducible refine (tree_Tree_Copy.calls _ _ l0 t377 _ ?side1 ?side2 A17.out).mono ?_); (case side1 => repeat (first | exact HR0.out | (with_reducible refine Kd.C_alloc ?_ _) | (with_reducible refine Kd.C_drewN ?_ _) | (with_reducible refine Kd.C_drew ?_))); (case side2 => exact HC0.out); rintro e w18 ⟨v378, rfl, ho0, hb⟩; refine ⟨_, rfl, ?_⟩; have HO379 := Aside0.mk (Kd.S_lower ho0 (below_size qB)); replace HB := bst hb; (try clear hb); (try clear ho0)))
 go_ret2
 exact ⟨_, qR, by (with_reducible repeat (first | apply Kd.S_alloc | apply Kd.S_drewN | apply Kd.S_drew)); exact HO379.out, qB⟩
end Go.Proofs.YtbngfhlciebeeaaDoor.L
end
