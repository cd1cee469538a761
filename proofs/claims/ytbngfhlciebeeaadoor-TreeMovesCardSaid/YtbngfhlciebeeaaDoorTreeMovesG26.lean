/- Printed and hand-written steps towards the row (TreeMoves), those that it reaches. -/
import Derived.Test.YtbngfhlciebeeaaDoorTreeMovesG25
import Derived.Test.YtbngfhlciebeeaaDoorTreeMovesG4
import Derived.Test.YtbngfhlciebeeaaDoorTreeMovesG16
import Derived.Test.YtbngfhlciebeeaaDoorTreeMovesG17
import Derived.Test.YtbngfhlciebeeaaDoorTreeMovesG19
import Derived.KernelRfl
import Derived.OpenShut
section
namespace Go.Proofs.YtbngfhlciebeeaaDoor.Sp
set_option linter.unusedVariables false
set_option linter.unusedSimpArgs false
open Go.RowKit Go.Proofs.YtbngfhlciebeeaaDoor.L Go.Proofs.YtbngfhlciebeeaaDoorW.PrintWords
theorem rightFrom_iff (l : List S43) : ∀ (bs : List S43) (i : Nat), rightFrom l i bs = true ↔ ∀ (j : Nat) (h : j < bs.length), branchOk l (i + j) bs[j] = true
  | [], i => by simp [rightFrom]
  | b :: bs, i => by
    simp only [rightFrom, Bool.and_eq_true]
    rw [rightFrom_iff l bs (i + 1)]
    constructor
    · rintro ⟨h0, h1⟩ j hj
      cases j with
      | zero => exact h0
      | succ j =>
        have := h1 j (by simpa using hj)
        rw [show i + 1 + j = i + (j + 1) by omega] at this
        simpa using this
    · intro h
      refine ⟨h 0 (by simp), fun j hj => ?_⟩
      have := h (j + 1) (by simpa using hj)
      rw [show i + (j + 1) = i + 1 + j by omega] at this
      simpa using this
theorem rightTree_iff {l : List S43} : rightTree l = true ↔ 1 ≤ l.length ∧ l.length ≤ 8 ∧ ∀ (j : Nat) (h : j < l.length), branchOk l j l[j] = true := by
  unfold rightTree
  rw [Bool.and_eq_true, Bool.and_eq_true, decide_eq_true_iff, decide_eq_true_iff, rightFrom_iff]
  simp
def nameB (b : S43) : Prop := ∀ x ∈ b.f3, x.f2.size ≤ 200
def okT (l : List S43) : Prop := rightTree l = true ∧ ∀ b ∈ l, nameB b
theorem goodB_iff {len : Int} {xs : List S45} : goodB len xs = true ↔ 0 ≤ len ∧ len ≤ 512 ∧ rising len (-1) xs = true := by
  unfold goodB
  simp [Bool.and_eq_true]
theorem branchOk_good {l : List S43} {i : Nat} {b : S43} (h : branchOk l i b = true) : goodB b.f2 b.f3 = true := by
  unfold branchOk at h
  rw [Bool.and_eq_true] at h
  exact h.1
theorem okT_good {l : List S43} (h : okT l) {b : S43} (hb : b ∈ l) : goodB b.f2 b.f3 = true := by
  obtain ⟨j, hj, rfl⟩ := List.getElem_of_mem hb
  exact branchOk_good ((rightTree_iff.1 h.1).2.2 j hj)
theorem okT_len {l : List S43} (h : okT l) {b : S43} (hb : b ∈ l) : 0 ≤ b.f2 ∧ b.f2 ≤ 512 := by
  have := goodB_iff.1 (okT_good h hb)
  exact ⟨this.1, this.2.1⟩
theorem okT_small {l : List S43} (h : okT l) : smallT l := by
  have h8 := (rightTree_iff.1 h.1).2.1
  refine ⟨by omega, fun b hb => ⟨?_, fun x hx => by have := h.2 b hb x hx; omega⟩⟩
  obtain ⟨h0, h1, h2⟩ := goodB_iff.1 (okT_good h hb)
  by_cases h3 : -1 < b.f2
  · have := rising_len h2 h3
    omega
  · omega
theorem forkedB_iff {l : List S43} {i : Nat} {b : S43} : forkedB l i b = true ↔ 0 ≤ b.f0 ∧ b.f0 < (i : Int) ∧ 0 ≤ b.f1 ∧ b.f1 < (rd_T43 l b.f0).f2 ∧ b.f1 < b.f2 ∧ hasAt b.f1 b.f3 = true ∧ ahead b.f1 b.f3 = ahead b.f1 (rd_T43 l b.f0).f3 := by
  unfold forkedB
  simp only [Bool.and_eq_true, decide_eq_true_iff, eqL_iff]
theorem branchOk_iff {l : List S43} {i : Nat} {b : S43} : branchOk l i b = true ↔ goodB b.f2 b.f3 = true ∧ (i = 0 → b.f0 = -1 ∧ b.f1 = 0) ∧ (i ≠ 0 → forkedB l i b = true) := by
  unfold branchOk
  rw [Bool.and_eq_true]
  by_cases h : i = 0
  · rw [if_pos h]; simp [h]
  · rw [if_neg h]; simp [h]
theorem rising_more {len len' : Int} (hle : len ≤ len') : ∀ {xs : List S45} {last : Int}, rising len last xs = true → rising len' last xs = true
  | [], _, _ => rfl
  | x :: xs, last, h => by
    obtain ⟨a, b, c, d⟩ := rising_cons.1 h
    exact rising_cons.2 ⟨a, b, by omega, rising_more hle d⟩
theorem rising_put {len a : Int} {x : S45} (hx : rightI x = true) (hf : x.f0 = a) : ∀ {xs : List S45} {last : Int}, rising len last xs = true → last < a → rising (a + 1) last (ahead a xs ++ [x]) = true
  | [], last, _, hl => by
    show rising (a + 1) last [x] = true
    exact rising_cons.2 ⟨hx, by omega, by omega, rfl⟩
  | y :: ys, last, h, hl => by
    obtain ⟨r0, r1, r2, r3⟩ := rising_cons.1 h
    by_cases hy : y.f0 < a
    · have e : ahead a (y :: ys) = y :: ahead a ys := by unfold ahead; rw [List.filter_cons_of_pos (by simpa using hy)]
      rw [e, List.cons_append]
      exact rising_cons.2 ⟨r0, r1, by omega, rising_put hx hf r3 hy⟩
    · have e : ahead a (y :: ys) = [] := ahead_none (len := len) (last := a - 1) (rising_cons.2 ⟨r0, by omega, r2, r3⟩) (by omega)
      rw [e]
      exact rising_cons.2 ⟨hx, by omega, by omega, rfl⟩
theorem ahead_all {a : Int} {xs : List S45} (h : ∀ x ∈ xs, x.f0 < a) : ahead a xs = xs := by
  unfold ahead
  rw [List.filter_eq_self]
  intro x hx
  simpa using h x hx
theorem ahead_snoc {a : Int} {xs : List S45} {x : S45} (h : a ≤ x.f0) : ahead a (xs ++ [x]) = ahead a xs := by
  unfold ahead
  rw [List.filter_append, List.filter_cons_of_neg (by simp; omega)]
  simp
theorem ahead_ahead {a : Int} {xs : List S45} : ahead a (ahead a xs) = ahead a xs := by
  unfold ahead
  rw [List.filter_filter]
  simp
theorem ahead_sub {a : Int} {xs : List S45} {x : S45} (h : x ∈ ahead a xs) : x ∈ xs := (List.mem_filter.1 h).1
theorem okT_set {l : List S43} (h : okT l) {n : Nat} (hn : n < l.length) {b : S43} (h0 : b.f0 = l[n].f0) (h1 : b.f1 = l[n].f1) (h2 : l[n].f2 ≤ b.f2) (hg : goodB b.f2 b.f3 = true) (hN : nameB b)
    (ha : ∀ a, a ≤ l[n].f2 → ahead a b.f3 = ahead a l[n].f3) (hh : ∀ a, hasAt a l[n].f3 = true → hasAt a b.f3 = true) : okT (l.set n b) := by
  obtain ⟨e1, e8, eb⟩ := rightTree_iff.1 h.1
  refine ⟨rightTree_iff.2 ⟨by simpa using e1, by simpa using e8, fun j hj => ?_⟩, fun c hc => ?_⟩
  · have hj' : j < l.length := by simpa using hj
    have hrd : ∀ p : Int, 0 ≤ p → p < (l.length : Int) → (rd_T43 l p).f2 ≤ (rd_T43 (l.set n b) p).f2 ∧ ∀ a, a ≤ (rd_T43 l p).f2 → ahead a (rd_T43 (l.set n b) p).f3 = ahead a (rd_T43 l p).f3 := by
      intro p p0 p1
      obtain ⟨m, rfl⟩ := Int.eq_ofNat_of_zero_le p0
      have hm : m < l.length := by omega
      rw [rd43 hm, rd43 (by simpa using hm), List.getElem_set]
      by_cases hmn : n = m
      · subst hmn
        rw [if_pos rfl]
        exact ⟨h2, ha⟩
      · rw [if_neg hmn]
        exact ⟨Int.le_refl _, fun _ _ => rfl⟩
    have hold := branchOk_iff.1 (eb j hj')
    have hcommon : ∀ c : S43, c.f0 = l[j].f0 → c.f1 = l[j].f1 → l[j].f2 ≤ c.f2 → goodB c.f2 c.f3 = true → (∀ a, a ≤ l[j].f2 → ahead a c.f3 = ahead a l[j].f3) → (∀ a, hasAt a l[j].f3 = true → hasAt a c.f3 = true) → branchOk (l.set n b) j c = true := by
      intro c c0 c1 c2 cg ca ch
      refine branchOk_iff.2 ⟨cg, fun hj0 => by rw [c0, c1]; exact hold.2.1 hj0, fun hj0 => ?_⟩
      obtain ⟨f0, f1, f2, f3, f4, f5, f6⟩ := forkedB_iff.1 (hold.2.2 hj0)
      obtain ⟨r1, r2⟩ := hrd l[j].f0 f0 (by omega)
      rw [forkedB_iff, c0, c1]
      exact ⟨f0, f1, f2, by omega, by omega, ch _ f5, by rw [ca _ (by omega), r2 _ (by omega), f6]⟩
    rw [List.getElem_set]
    by_cases hmn : n = j
    · subst hmn
      rw [if_pos rfl]
      exact hcommon b h0 h1 h2 hg ha hh
    · rw [if_neg hmn]
      exact hcommon l[j] rfl rfl (Int.le_refl _) hold.1 (fun _ _ => rfl) (fun _ h => h)
  · rcases List.mem_or_eq_of_mem_set hc with hc | rfl
    · exact h.2 c hc
    · exact hN
theorem okT_snoc {l : List S43} (h : okT l) (h8 : l.length < 8) {b : S43} (hg : goodB b.f2 b.f3 = true) (hN : nameB b) (hf : forkedB l l.length b = true) : okT (l ++ [b]) := by
  obtain ⟨e1, e8, eb⟩ := rightTree_iff.1 h.1
  have hrd : ∀ p : Int, 0 ≤ p → p < (l.length : Int) → rd_T43 (l ++ [b]) p = rd_T43 l p := by
    intro p p0 p1
    obtain ⟨m, rfl⟩ := Int.eq_ofNat_of_zero_le p0
    have hm : m < l.length := by omega
    rw [rd43 hm, rd43 (by simp; omega), List.getElem_append_left hm]
  have hsame : ∀ (j : Nat) (c : S43), j ≤ l.length → forkedB l j c = true → forkedB (l ++ [b]) j c = true := by
    intro j c hj hc
    obtain ⟨f0, f1, f2, f3, f4, f5, f6⟩ := forkedB_iff.1 hc
    rw [forkedB_iff, hrd _ f0 (by omega)]
    exact ⟨f0, f1, f2, f3, f4, f5, f6⟩
  refine ⟨rightTree_iff.2 ⟨by simp, by simp; omega, fun j hj => ?_⟩, fun c hc => ?_⟩
  · by_cases hjl : j < l.length
    · rw [List.getElem_append_left hjl]
      have hold := branchOk_iff.1 (eb j hjl)
      exact branchOk_iff.2 ⟨hold.1, hold.2.1, fun hj0 => hsame j _ (by omega) (hold.2.2 hj0)⟩
    · have hje : j = l.length := by simp at hj; omega
      subst hje
      rw [List.getElem_append_right (Nat.le_refl _)]
      simp only [Nat.sub_self, List.getElem_cons_zero]
      exact branchOk_iff.2 ⟨hg, fun h0 => by omega, fun _ => hsame _ _ (Nat.le_refl _) hf⟩
  · rcases List.mem_append.1 hc with hc | hc
    · exact h.2 c hc
    · rw [List.mem_singleton.1 hc]; exact hN
theorem okT_grow {l : List S43} (h : okT l) (b : Int) : okT (growL l b).1 := by
  unfold growL
  by_cases hb : 0 ≤ b ∧ b < (l.length : Int)
  · rw [if_pos hb]
    by_cases h5 : (rd_T43 l b).f2 ≥ 512
    · rw [if_pos h5]; exact h
    · rw [if_neg h5]
      obtain ⟨n, rfl⟩ := Int.eq_ofNat_of_zero_le hb.1
      have hn : n < l.length := by omega
      rw [rd43 hn] at h5 ⊢
      have hg := goodB_iff.1 (okT_good h (List.getElem_mem hn))
      exact okT_set h hn rfl rfl (by simp only; omega) (goodB_iff.2 ⟨by simp only; omega, by simp only; omega, rising_more (by simp only; omega) hg.2.2⟩) (fun y hy => h.2 _ (List.getElem_mem hn) y hy) (fun _ _ => rfl) (fun _ h => h)
  · rw [if_neg hb]; exact h
theorem hasAt_snoc {a : Int} {xs : List S45} {x : S45} : hasAt a xs = true → hasAt a (xs ++ [x]) = true := by
  rw [hasAt_iff, hasAt_iff]
  rintro ⟨y, hy, he⟩
  exact ⟨y, List.mem_append_left _ hy, he⟩
theorem okT_put {l : List S43} (h : okT l) (b at_ : Int) {x : S45} (hx : x.f2.size ≤ 200) : okT (putL l b at_ x).1 := by
  unfold putL
  by_cases hb : 0 ≤ b ∧ b < (l.length : Int)
  · rw [if_pos hb]
    obtain ⟨n, rfl⟩ := Int.eq_ofNat_of_zero_le hb.1
    have hn : n < l.length := by omega
    rw [rd43 hn]
    by_cases h1 : at_ < 0 ∨ at_ > l[n].f2
    · rw [if_pos h1]; exact h
    rw [if_neg h1]
    by_cases h2 : rightI (inAt x at_) = false
    · rw [if_pos h2]; exact h
    rw [if_neg h2]
    by_cases h3 : at_ ≥ 512
    · rw [if_pos h3]; exact h
    rw [if_neg h3]
    have hg := goodB_iff.1 (okT_good h (List.getElem_mem hn))
    have hr : rightI (inAt x at_) = true := by simpa using h2
    have hput : rising (at_ + 1) (-1) (ahead at_ l[n].f3 ++ [inAt x at_]) = true := rising_put hr rfl hg.2.2 (show -1 < at_ by omega)
    have hname : ∀ y ∈ l[n].f3, y.f2.size ≤ 200 := h.2 _ (List.getElem_mem hn)
    by_cases h4 : at_ < l[n].f2
    · rw [if_pos h4]
      by_cases h5 : (l.length : Int) ≥ 8
      · rw [if_pos h5]; exact h
      · rw [if_neg h5]
        refine okT_snoc h (by omega) (goodB_iff.2 ⟨by simp only; omega, by simp only; omega, hput⟩) (fun y hy => ?_) (forkedB_iff.2 ?_)
        · rcases List.mem_append.1 hy with hy | hy
          · exact hname y (ahead_sub hy)
          · rw [List.mem_singleton.1 hy]; exact hx
        · simp only
          rw [rd43 hn]
          refine ⟨by omega, by omega, by omega, h4, by omega, ?_, ?_⟩
          · rw [hasAt_iff]
            exact ⟨inAt x at_, List.mem_append_right _ (List.mem_singleton.2 rfl), rfl⟩
          · rw [ahead_snoc (show at_ ≤ (inAt x at_).f0 from Int.le_refl _), ahead_ahead]
    · rw [if_neg h4]
      have hat : at_ = l[n].f2 := by omega
      have hall : ahead at_ l[n].f3 = l[n].f3 := ahead_all fun y hy => by
        have := (rising_mem hg.2.2 y hy).2.2
        omega
      rw [hall] at hput
      refine okT_set h hn rfl rfl (by simp only; omega) (goodB_iff.2 ⟨by simp only; omega, by simp only; omega, hput⟩) (fun y hy => ?_) (fun a ha => ?_) (fun a ha => hasAt_snoc ha)
      · rcases List.mem_append.1 hy with hy | hy
        · exact hname y hy
        · rw [List.mem_singleton.1 hy]; exact hx
      · exact ahead_snoc (by show a ≤ at_; omega)
  · rw [if_neg hb]; exact h
theorem okT_new : okT [⟨-1, 0, 0, []⟩] := ⟨by decide, fun b hb => by rw [List.mem_singleton.1 hb]; intro x hx; cases hx⟩
end Go.Proofs.YtbngfhlciebeeaaDoor.Sp
end
section
namespace Go.Proofs.YtbngfhlciebeeaaDoor.L
open Go.RowKit Go.Proofs.YtbngfhlciebeeaaDoorW.PrintWords Go.Proofs.YtbngfhlciebeeaaDoorW.PrintLast Go.Proofs.YtbngfhlciebeeaaDoorW.PrintMore
attribute [local go_sem] max2_int min2_int max_two min_two max_three min_three max_four min_four   -- for this text's walks alone
set_option linter.unusedVariables false
set_option linter.unusedSimpArgs false
attribute [local go_sem high] eqA45
def whirligiglaw22_small.l0 : Nat → List (S56) → List (S56) → Int → Int → Option (Bool)
 | 0, _, _, _, _ => none
 | k + 1, x0, x5, x6, x7 => if x7 < x6 then (if 0 ≤ x7 then (if x7 < (x5.length : Int) then (if (((rd_T56 x5 x7).f3.f2).size : Int) > 200 then (some false) else (whirligiglaw22_small.l0 k x0 x5 x6 (wrap64 (x7 + 1)))) else (none)) else (none)) else (some (decide ((x0.length : Int) ≤ 700)))
def whirligiglaw22_small.f (k : Nat) (l0 : List (S56)) : Option (Bool) := whirligiglaw22_small.l0 k l0 l0 (l0.length : Int) 0
set_option maxHeartbeats 8000000 in
set_option maxRecDepth 100000 in
theorem whirligiglaw22_small.calls (k : Nat) (A0 : Option Addr) (c0 : Nat) (l0 : List (S56)) (r : Bool) (w : World) (hr0 : Kd.C k56 w A0 l0.length l0) (hc0 : l0.length ≤ c0) (h : whirligiglaw22_small.f k l0 = some r) :
  Calls Tryd.prog 38 #[.slice A0 l0.length c0] w fun e w' => e = .returned (.bool r) ∧ Below w.heap.size w w' := by
 have hu56 := Tryd.underlying56
 have HR0 := Aside0.mk hr0
 have HC0 := Aside0.mk hc0
 clear hr0 hc0
 have HB := Aside0.mk (Below.refl w.heap.size w)
 have H : (whirligiglaw22_small.l0 k l0 l0 (l0.length : Int) 0) = some r := h
 clear h
 have H' := Aside0.mk H
 clear H
 go_enter Tryd.func38, Tryd.ntmps38
 go_wp2
 go_loopg [7] k (fun kq v7 w' => ∃ (x7_1 : Int), v7 = .int .i64 x7_1 ∧ Aside0 (whirligiglaw22_small.l0 kq l0 l0 (l0.length : Int) x7_1 = some r) ∧ Aside0 (kq ≤ k) ∧ Aside0 (Below w.heap.size w w'))
 case atStart => exact ⟨(0), (by first | rfl | (simp; done) | (simp [*]; done)), H', ⟨Nat.le_refl _⟩, ⟨qB⟩⟩
 case round =>
  clear H'
  obtain ⟨x7_1, rfl, HA, HK1, HB⟩ := hrel
  cases gk with
  | zero => exact absurd HA.out (by simp [whirligiglaw22_small.l0])
  | succ k1 =>
   have H := HA.out
   clear HA
   simp only [whirligiglaw22_small.l0] at H
   by_cases c2 : x7_1 < (l0.length : Int)
   ·rw [if_pos c2] at H
    have c2b0 := decide_eq_true c2
    clear c2
    by_cases c3 : 0 ≤ x7_1
    ·rw [if_pos c3] at H
     have c3b0 := decide_eq_true c3
     clear c3
     by_cases c4 : x7_1 < (l0.length : Int)
     ·rw [if_pos c4] at H
      have c4b0 := decide_eq_true c4
      clear c4
      by_cases c5 : (((rd_T56 l0 x7_1).f3.f2).size : Int) > 200
      ·rw [if_pos c5] at H
       have c5b0 := decide_eq_true c5
       have c5b1 : decide (200 < ((rd_T56 l0 x7_1).f3.f2).size) = true := decide_eq_true (by omega)
       clear c5
       obtain rfl := Option.some.inj H
       have p496 : 0 ≤ (x7_1 : Int) := qD
       have q496 : x7_1 < (l0.length : Int) := qD
       obtain ⟨ad496, e496, hx496_0, hx496_1, hx496_2, hx496_3, hx496_4, hx496_5, hx496_6⟩ := at_T56 (Kd.C_below HR0.out HB.out) x7_1 p496 q496
       cases e496
       replace p496 := eq_true p496
       replace q496 := eq_true q496
       go_wp2_with (first | (refine bx 4 #[.int .i64 0, .int .i64 0, .int .i64 0, .int .i64 0, .int .i64 0, .string (⟨#[]⟩ : ByteArray), .int .i64 0] 56 ?_; intro gb497 hg w6 hbox hb; have BK497 := Aside0.mk (hbox); have GW497 := geS hg; have GE497 := geS hg; replace HB := bst hb; clear hb hbox hg; obtain ⟨hcz7_0, hcz7_1, hcz7_2, hcz7_3, hcz7_4, hcz7_5, hcz7_6, hfz7_0, hfz7_1, hfz7_2, hfz7_3, hfz7_4, hfz7_5, hfz7_6⟩ := cells7 BK497.out))
       go_ret
       exact ⟨qR, qB⟩
      ·rw [if_neg c5] at H
       have c5b0 := decide_eq_false c5
       have c5b1 : decide (200 < ((rd_T56 l0 x7_1).f3.f2).size) = false := decide_eq_false (by omega)
       clear c5
       have H' := Aside0.mk H
       clear H
       have p496 : 0 ≤ (x7_1 : Int) := qD
       have q496 : x7_1 < (l0.length : Int) := qD
       obtain ⟨ad496, e496, hx496_0, hx496_1, hx496_2, hx496_3, hx496_4, hx496_5, hx496_6⟩ := at_T56 (Kd.C_below HR0.out HB.out) x7_1 p496 q496
       cases e496
       replace p496 := eq_true p496
       replace q496 := eq_true q496
       go_wp2_with (first | (refine bx 4 #[.int .i64 0, .int .i64 0, .int .i64 0, .int .i64 0, .int .i64 0, .string (⟨#[]⟩ : ByteArray), .int .i64 0] 56 ?_; intro gb497 hg w8 hbox hb; have BK497 := Aside0.mk (hbox); have GW497 := geS hg; have GE497 := geS hg; replace HB := bst hb; clear hb hbox hg; obtain ⟨hcz9_0, hcz9_1, hcz9_2, hcz9_3, hcz9_4, hcz9_5, hcz9_6, hfz9_0, hfz9_1, hfz9_2, hfz9_3, hfz9_4, hfz9_5, hfz9_6⟩ := cells7 BK497.out))
       go_roundg k1
       case measure => have := HK1.out; omega
       case rel => exact ⟨(wrap64 (x7_1 + 1)), (by first | rfl | (simp; done) | (simp [*]; done)), H', ⟨by have := HK1.out; omega⟩, ⟨qB⟩⟩
     ·rw [if_neg c4] at H
      exact absurd H (by simp)
    ·rw [if_neg c3] at H
     exact absurd H (by simp)
   ·rw [if_neg c2] at H
    have c2b0 := decide_eq_false c2
    clear c2
    obtain rfl := Option.some.inj H
    go_wp2
    go_ret
    exact ⟨qR, qB⟩
mutual
def tree_Tree_Common.j0 : Nat → List (S43) → Int → Int → Bool → Option (Int)
 | 0, _, _, _, _ => none
 | k + 1, x0, x1, x2, x22 => if x22 = true then (some 0) else (if 0 ≤ x1 then (if x1 < (x0.length : Int) then (if 0 ≤ x2 then (if x2 < (x0.length : Int) then (tree_Tree_Common.l0 k x0 x1 x2 (mn ((rd_T43 x0 x1).f2) ((rd_T43 x0 x2).f2)) (mn ((rd_T43 x0 x1).f2) ((rd_T43 x0 x2).f2)) 0) else (none)) else (none)) else (none)) else (none))
def tree_Tree_Common.l0 : Nat → List (S43) → Int → Int → Int → Int → Int → Option (Int)
 | 0, _, _, _, _, _, _ => none
 | k + 1, x0, x1, x2, x7, x34, x35 => if x35 < x34 then ((tree_Tree_Input.f x0 x1 x35).bind fun bt502 => ((tree_Tree_Input.f x0 x2 x35).bind fun bt508 => (if (bt502.2.2.2.2 != bt508.2.2.2.2) = true then (some x35) else (if (!(bt502.1 == bt508.1) || (!(bt502.2.1 == bt508.2.1) || (!(bt502.2.2.1.toList == bt508.2.2.1.toList) || (!(bt502.2.2.2.1 == bt508.2.2.2.1))))) = true then (some x35) else (tree_Tree_Common.l0 k x0 x1 x2 x7 x34 (wrap64 (x35 + 1))))))) else (some x7)
end
def tree_Tree_Common.f (k : Nat) (l0 : List (S43)) (a1 : Int) (a2 : Int) : Option (Int) := (tree_Tree_has.f l0 a1).bind fun t498 => (if t498 = true then ((tree_Tree_has.f l0 a2).bind fun t499 => (tree_Tree_Common.j0 k l0 a1 a2 (!t499))) else (tree_Tree_Common.j0 k l0 a1 a2 true))
set_option maxHeartbeats 8000000 in
set_option maxRecDepth 100000 in
theorem tree_Tree_Common.calls (k : Nat) (A0 : Option Addr) (c0 : Nat) (l0 : List (S43)) (a1 : Int) (a2 : Int) (r : Int) (w : World) (hr0 : Kd.C k43 w A0 l0.length l0) (hc0 : l0.length ≤ c0) (h : tree_Tree_Common.f k l0 a1 a2 = some r) :
  Calls Tryd.prog 44 #[.slice A0 l0.length c0, .int .i64 a1, .int .i64 a2] w fun e w' => e = .returned (.int .i64 r) ∧ Below w.heap.size w w' := by
 have hu45 := Tryd.underlying45
 have HR0 := Aside0.mk hr0
 have HC0 := Aside0.mk hc0
 clear hr0 hc0
 have HB := Aside0.mk (Below.refl w.heap.size w)
 have H : ((tree_Tree_has.f l0 a1).bind fun t498 => (if t498 = true then ((tree_Tree_has.f l0 a2).bind fun t499 => (tree_Tree_Common.j0 k l0 a1 a2 (!t499))) else (tree_Tree_Common.j0 k l0 a1 a2 true))) = some r := h
 clear h
 have HC4 := Aside0.mk H
 clear H
 go_enter Tryd.func44, Tryd.ntmps44
 go_upto_region 1 with (fail)
 repeat (go_quiet (fail); go_upto_region 1 with (fail))
 go_cut [22] (fun v22 wc => ∃ (kq : Nat) (x22_3 : Bool), v22 = .bool x22_3 ∧ Aside0 (tree_Tree_Common.j0 kq l0 a1 a2 x22_3 = some r) ∧ Aside0 (kq ≤ k) ∧ Aside0 (Below w.heap.size w wc))
 case first =>
  have H := HC4.out
  clear HC4
  replace H := Option.bind_eq_some_iff.mp H
  obtain ⟨t498, A50, H⟩ := H
  (try dsimp -simprocs only at H)
  have A5 := Aside0.mk A50
  clear A50
  by_cases c6 : t498 = true
  ·subst c6
   rw [if_pos rfl] at H
   replace H := Option.bind_eq_some_iff.mp H
   obtain ⟨t499, A70, H⟩ := H
   (try dsimp -simprocs only at H)
   have A7 := Aside0.mk A70
   clear A70
   have H' := Aside0.mk H
   clear H
   go_wp2_with (first | (go_at_call 80; (with_reducible refine (tree_Tree_has.calls _ _ l0 a1 true _ ?side1 ?side2 A5.out).mono ?_); (case side1 => exact qC); (case side2 => exact HC0.out); rintro e w' ⟨rfl, ⟨nd, rfl⟩⟩; (try exact qW)) | (go_at_call 80; (with_reducible refine (tree_Tree_has.calls _ _ l0 a2 t499 _ ?side1 ?side2 A7.out).mono ?_); (case side1 => repeat (first | exact (Kd.C_below HR0.out qB) | (with_reducible refine Kd.C_alloc ?_ _) | (with_reducible refine Kd.C_drewN ?_ _) | (with_reducible refine Kd.C_drew ?_))); (case side2 => exact HC0.out); rintro e w' ⟨rfl, ⟨nd, rfl⟩⟩; (try exact qW)))
   repeat (go_quiet (first | (go_at_call 80; (with_reducible refine (tree_Tree_has.calls _ _ l0 a1 true _ ?side1 ?side2 A5.out).mono ?_); (case side1 => exact qC); (case side2 => exact HC0.out); rintro e w' ⟨rfl, ⟨nd, rfl⟩⟩; (try exact qW)) | (go_at_call 80; (with_reducible refine (tree_Tree_has.calls _ _ l0 a2 t499 _ ?side1 ?side2 A7.out).mono ?_); (case side1 => repeat (first | exact (Kd.C_below HR0.out qB) | (with_reducible refine Kd.C_alloc ?_ _) | (with_reducible refine Kd.C_drewN ?_ _) | (with_reducible refine Kd.C_drew ?_))); (case side2 => exact HC0.out); rintro e w' ⟨rfl, ⟨nd, rfl⟩⟩; (try exact qW))); try go_wp2_with (first | (go_at_call 80; (with_reducible refine (tree_Tree_has.calls _ _ l0 a1 true _ ?side1 ?side2 A5.out).mono ?_); (case side1 => exact qC); (case side2 => exact HC0.out); rintro e w' ⟨rfl, ⟨nd, rfl⟩⟩; (try exact qW)) | (go_at_call 80; (with_reducible refine (tree_Tree_has.calls _ _ l0 a2 t499 _ ?side1 ?side2 A7.out).mono ?_); (case side1 => repeat (first | exact (Kd.C_below HR0.out qB) | (with_reducible refine Kd.C_alloc ?_ _) | (with_reducible refine Kd.C_drewN ?_ _) | (with_reducible refine Kd.C_drew ?_))); (case side2 => exact HC0.out); rintro e w' ⟨rfl, ⟨nd, rfl⟩⟩; (try exact qW))))
   go_meet
   case rel => exact ⟨_, (!t499), (by first | rfl | (simp; done) | (simp [*]; done)), H', ⟨by first | omega | exact Nat.le_refl _⟩, ⟨qB⟩⟩
  ·replace c6 := Bool.eq_false_iff.mpr c6
   subst c6
   rw [if_neg (show ¬ (false = true) by decide)] at H
   have H' := Aside0.mk H
   clear H
   go_wp2_with (first | (go_at_call 80; (with_reducible refine (tree_Tree_has.calls _ _ l0 a1 false _ ?side1 ?side2 A5.out).mono ?_); (case side1 => exact qC); (case side2 => exact HC0.out); rintro e w' ⟨rfl, ⟨nd, rfl⟩⟩; (try exact qW)))
   repeat (go_quiet (first | (go_at_call 80; (with_reducible refine (tree_Tree_has.calls _ _ l0 a1 false _ ?side1 ?side2 A5.out).mono ?_); (case side1 => exact qC); (case side2 => exact HC0.out); rintro e w' ⟨rfl, ⟨nd, rfl⟩⟩; (try exact qW))); try go_wp2_with (first | (go_at_call 80; (with_reducible refine (tree_Tree_has.calls _ _ l0 a1 false _ ?side1 ?side2 A5.out).mono ?_); (case side1 => exact qC); (case side2 => exact HC0.out); rintro e w' ⟨rfl, ⟨nd, rfl⟩⟩; (try exact qW))))
   go_meet
   case rel => exact ⟨_, (true), (by first | rfl | (simp; done) | (simp [*]; done)), H', ⟨by first | omega | exact Nat.le_refl _⟩, ⟨qB⟩⟩
 case rest =>
  clear HC4
  try clear p2
  try clear c4
  try clear c6
  obtain ⟨kq, x22_3, rfl, HA, HJ3, HB⟩ := hcut
  cases kq with
  | zero => exact absurd HA.out (by simp [tree_Tree_Common.j0])
  | succ kj3 =>
   have H := HA.out
   clear HA
   simp only [tree_Tree_Common.j0] at H
   by_cases c8 : x22_3 = true
   ·subst c8
    rw [if_pos rfl] at H
    obtain rfl := Option.some.inj H
    go_wp2
    repeat (go_quiet (fail); try go_wp2)
    go_ret
    exact ⟨qR, qB⟩
   ·replace c8 := Bool.eq_false_iff.mpr c8
    subst c8
    rw [if_neg (show ¬ (false = true) by decide)] at H
    by_cases c9 : 0 ≤ a1
    ·rw [if_pos c9] at H
     have c9b0 := decide_eq_true c9
     clear c9
     by_cases c10 : a1 < (l0.length : Int)
     ·rw [if_pos c10] at H
      have c10b0 := decide_eq_true c10
      clear c10
      by_cases c11 : 0 ≤ a2
      ·rw [if_pos c11] at H
       have c11b0 := decide_eq_true c11
       clear c11
       by_cases c12 : a2 < (l0.length : Int)
       ·rw [if_pos c12] at H
        have c12b0 := decide_eq_true c12
        clear c12
        obtain ⟨ji13, hji13⟩ : ∃ j_ : Int, (mn ((rd_T43 l0 a1).f2) ((rd_T43 l0 a2).f2)) = j_ := ⟨_, rfl⟩
        replace H : (tree_Tree_Common.l0 kj3 l0 a1 a2 ji13 ji13 0) = some r := by first | (rw [hji13] at H; exact H) | (simp only [hji13] at H ⊢; exact H)
        have hji13_ : (if ((rd_T43 l0 a2).f2) < ((rd_T43 l0 a1).f2) then ((rd_T43 l0 a2).f2) else ((rd_T43 l0 a1).f2)) = ji13 := hji13
        have H' := Aside0.mk H
        clear H
        have p500 : 0 ≤ (a1 : Int) := qD
        have q500 : a1 < (l0.length : Int) := qD
        obtain ⟨ad500, A500_3, c500_3, e500, hx500_0, hx500_1, hx500_2, hx500_3, hl500_3, hi500_3⟩ := at_T43 HR0.out a1 p500 q500
        cases e500
        replace hx500_0 := pw_cell_below HB.out hx500_0
        replace hx500_1 := pw_cell_below HB.out hx500_1
        replace hx500_2 := pw_cell_below HB.out hx500_2
        replace hx500_3 := pw_cell_below HB.out hx500_3
        have HR500_3 := Aside0.mk hi500_3
        have HC500_3 := Aside0.mk hl500_3
        clear hi500_3 hl500_3
        replace p500 := eq_true p500
        replace q500 := eq_true q500
        have p501 : 0 ≤ (a2 : Int) := qD
        have q501 : a2 < (l0.length : Int) := qD
        obtain ⟨ad501, A501_3, c501_3, e501, hx501_0, hx501_1, hx501_2, hx501_3, hl501_3, hi501_3⟩ := at_T43 HR0.out a2 p501 q501
        obtain rfl : ad500 = ad501 := (by injection e501)
        replace hx501_0 := pw_cell_below HB.out hx501_0
        replace hx501_1 := pw_cell_below HB.out hx501_1
        replace hx501_2 := pw_cell_below HB.out hx501_2
        replace hx501_3 := pw_cell_below HB.out hx501_3
        have HR501_3 := Aside0.mk hi501_3
        have HC501_3 := Aside0.mk hl501_3
        clear hi501_3 hl501_3
        replace p501 := eq_true p501
        replace q501 := eq_true q501
        go_wp2
        repeat (go_quiet (fail); try go_wp2)
        go_loopg [35] kj3 (fun kq v35 w' => ∃ (x35_2 : Int), v35 = .int .i64 x35_2 ∧ Aside0 (tree_Tree_Common.l0 kq l0 a1 a2 ji13 ji13 x35_2 = some r) ∧ Aside0 (kq ≤ kj3) ∧ Aside0 (Below w.heap.size w w'))
        case atStart => exact ⟨(0), (by first | rfl | (simp; done) | (simp [*]; done)), H', ⟨Nat.le_refl _⟩, ⟨qB⟩⟩
        case round =>
         clear H'
         try clear c1
         try clear p2 p2
         try clear c4
         try clear c5
         try clear p5
         try clear q5
         try clear hx5
         try clear c6
         try clear c8
         try clear c9
         try clear c9b0
         try clear c10
         try clear c10b0
         try clear c11
         try clear c11b0
         try clear c12
         try clear c12b0
         try clear hx500_0
         try clear hx500_1
         try clear hx500_2
         try clear hx500_3
         try clear hx501_0
         try clear hx501_1
         try clear hx501_2
         try clear hx501_3
         try clear p500
         try clear p501
         try clear q500
         try clear q501
         obtain ⟨x35_2, rfl, HA, HK2, HB⟩ := hrel
         cases gk with
         | zero => exact absurd HA.out (by simp [tree_Tree_Common.l0])
         | succ k2 =>
          have H := HA.out
          clear HA
          simp only [tree_Tree_Common.l0] at H
          by_cases c14 : x35_2 < ji13
          ·rw [if_pos c14] at H
           have c14b0 := decide_eq_true c14
           clear c14
           replace H := Option.bind_eq_some_iff.mp H
           obtain ⟨⟨t502, t503, t504, t505, t506⟩, A150, H⟩ := H
           (try dsimp -simprocs only at H)
           have A15 := Aside0.mk A150
           clear A150
           replace H := Option.bind_eq_some_iff.mp H
           obtain ⟨⟨t508, t509, t510, t511, t512⟩, A160, H⟩ := H
           (try dsimp -simprocs only at H)
           have A16 := Aside0.mk A160
           clear A160
           by_cases c17 : (t506 != t512) = true
           ·rw [if_pos c17] at H
            have c17b0 : (t506 != t512) = true := c17
            (try (have c17b1 : decide (t506 = t512) = false := by simpa using c17))
            (try (have c17b2 : (t506 == t512) = false := by simpa using c17))
            (try (have c17b3 : ¬ (t506 = t512) := by simpa using c17))
            clear c17
            obtain rfl := Option.some.inj H
            go_wp2_with (first | (go_at_call 42; (with_reducible refine (tree_Tree_Input.calls _ _ l0 a1 x35_2 t502 t503 t504 t505 t506 _ ?side1 ?side2 A15.out).mono ?_); (case side1 => exact qC); (case side2 => exact HC0.out); rintro e w18 ⟨rfl, hb⟩; replace HB := bst hb; (try clear hb)) | (refine bx 9 #[.int .i64 0, .int .i64 0, .string (⟨#[]⟩ : ByteArray), .int .i64 0] 45 ?_; intro gb507 hg w19 hbox hb; have BK507 := Aside0.mk (hbox); have GW507 := geS hg; have GE507 := geS hg; replace HB := bst hb; clear hb hbox hg; obtain ⟨hcz20_0, hcz20_1, hcz20_2, hcz20_3, hfz20_0, hfz20_1, hfz20_2, hfz20_3⟩ := cells4 BK507.out) | (go_at_call 42; (with_reducible refine (tree_Tree_Input.calls _ _ l0 a2 x35_2 t508 t509 t510 t511 t512 _ ?side1 ?side2 A16.out).mono ?_); (case side1 => exact Kd.C_below HR0.out qB); (case side2 => exact HC0.out); rintro e w21 ⟨rfl, hb⟩; replace BK507 := kp gb507 (.cells #[.int .i64 t502, .int .i64 t503, .string t504, .int .i64 t505] 45 (0, 0)) hb; replace HB := bst hb; (try clear hb)) | (refine bx 11 #[.int .i64 0, .int .i64 0, .string (⟨#[]⟩ : ByteArray), .int .i64 0] 45 ?_; intro gb513 hg w22 hbox hb; have BK513 := Aside0.mk (hbox); have GW513 := geS hg; have GE513 := geS hg; have NB507_513 := neS gb507 hg; have NB513_507 := neT gb507 hg; replace BK507 := kb gb507 hb; replace HB := bst hb; clear hb hbox hg; have hnb23 := NB513_507.out; have hnc23 := NB507_513.out; obtain ⟨hcz24_0, hcz24_1, hcz24_2, hcz24_3, hfz24_0, hfz24_1, hfz24_2, hfz24_3⟩ := cells4 BK513.out))
            repeat (go_quiet (first | (go_at_call 42; (with_reducible refine (tree_Tree_Input.calls _ _ l0 a1 x35_2 t502 t503 t504 t505 t506 _ ?side1 ?side2 A15.out).mono ?_); (case side1 => exact qC); (case side2 => exact HC0.out); rintro e w18 ⟨rfl, hb⟩; replace HB := bst hb; (try clear hb)) | (refine bx 9 #[.int .i64 0, .int .i64 0, .string (⟨#[]⟩ : ByteArray), .int .i64 0] 45 ?_; intro gb507 hg w19 hbox hb; have BK507 := Aside0.mk (hbox); have GW507 := geS hg; have GE507 := geS hg; replace HB := bst hb; clear hb hbox hg; obtain ⟨hcz20_0, hcz20_1, hcz20_2, hcz20_3, hfz20_0, hfz20_1, hfz20_2, hfz20_3⟩ := cells4 BK507.out) | (go_at_call 42; (with_reducible refine (tree_Tree_Input.calls _ _ l0 a2 x35_2 t508 t509 t510 t511 t512 _ ?side1 ?side2 A16.out).mono ?_); (case side1 => exact Kd.C_below HR0.out qB); (case side2 => exact HC0.out); rintro e w21 ⟨rfl, hb⟩; replace BK507 := kp gb507 (.cells #[.int .i64 t502, .int .i64 t503, .string t504, .int .i64 t505] 45 (0, 0)) hb; replace HB := bst hb; (try clear hb)) | (refine bx 11 #[.int .i64 0, .int .i64 0, .string (⟨#[]⟩ : ByteArray), .int .i64 0] 45 ?_; intro gb513 hg w22 hbox hb; have BK513 := Aside0.mk (hbox); have GW513 := geS hg; have GE513 := geS hg; have NB507_513 := neS gb507 hg; have NB513_507 := neT gb507 hg; replace BK507 := kb gb507 hb; replace HB := bst hb; clear hb hbox hg; have hnb23 := NB513_507.out; have hnc23 := NB507_513.out; obtain ⟨hcz24_0, hcz24_1, hcz24_2, hcz24_3, hfz24_0, hfz24_1, hfz24_2, hfz24_3⟩ := cells4 BK513.out)); try go_wp2_with (first | (go_at_call 42; (with_reducible refine (tree_Tree_Input.calls _ _ l0 a1 x35_2 t502 t503 t504 t505 t506 _ ?side1 ?side2 A15.out).mono ?_); (case side1 => exact qC); (case side2 => exact HC0.out); rintro e w18 ⟨rfl, hb⟩; replace HB := bst hb; (try clear hb)) | (refine bx 9 #[.int .i64 0, .int .i64 0, .string (⟨#[]⟩ : ByteArray), .int .i64 0] 45 ?_; intro gb507 hg w19 hbox hb; have BK507 := Aside0.mk (hbox); have GW507 := geS hg; have GE507 := geS hg; replace HB := bst hb; clear hb hbox hg; obtain ⟨hcz20_0, hcz20_1, hcz20_2, hcz20_3, hfz20_0, hfz20_1, hfz20_2, hfz20_3⟩ := cells4 BK507.out) | (go_at_call 42; (with_reducible refine (tree_Tree_Input.calls _ _ l0 a2 x35_2 t508 t509 t510 t511 t512 _ ?side1 ?side2 A16.out).mono ?_); (case side1 => exact Kd.C_below HR0.out qB); (case side2 => exact HC0.out); rintro e w21 ⟨rfl, hb⟩; replace BK507 := kp gb507 (.cells #[.int .i64 t502, .int .i64 t503, .string t504, .int .i64 t505] 45 (0, 0)) hb; replace HB := bst hb; (try clear hb)) | (refine bx 11 #[.int .i64 0, .int .i64 0, .string (⟨#[]⟩ : ByteArray), .int .i64 0] 45 ?_; intro gb513 hg w22 hbox hb; have BK513 := Aside0.mk (hbox); have GW513 := geS hg; have GE513 := geS hg; have NB507_513 := neS gb507 hg; have NB513_507 := neT gb507 hg; replace BK507 := kb gb507 hb; replace HB := bst hb; clear hb hbox hg; have hnb23 := NB513_507.out; have hnc23 := NB507_513.out; obtain ⟨hcz24_0, hcz24_1, hcz24_2, hcz24_3, hfz24_0, hfz24_1, hfz24_2, hfz24_3⟩ := cells4 BK513.out)))
            go_ret
            exact ⟨by first | rfl | (simp [errW_none, errW_some] <;> rfl) | (simp only [← hji13]; first | rfl | (simp [errW_none, errW_some] <;> rfl)) | (simp [*, errW_none, errW_some] <;> rfl), qB⟩
           ·rw [if_neg c17] at H
            have c17b0 : (t506 != t512) = false := by simpa using c17
            (try (have c17b1 : decide (t506 = t512) = true := by simpa using c17))
            (try (have c17b2 : (t506 == t512) = true := by simpa using c17))
            clear c17
            by_cases c25 : (!(t502 == t508) || (!(t503 == t509) || (!(t504.toList == t510.toList) || (!(t505 == t511))))) = true
            ·rw [if_pos c25] at H
             have c25b0 : (!(t502 == t508) || (!(t503 == t509) || (!(t504.toList == t510.toList) || (!(t505 == t511))))) = true := c25
             clear c25
             obtain rfl := Option.some.inj H
             go_wp2_with (first | (go_at_call 42; (with_reducible refine (tree_Tree_Input.calls _ _ l0 a1 x35_2 t502 t503 t504 t505 t506 _ ?side1 ?side2 A15.out).mono ?_); (case side1 => exact qC); (case side2 => exact HC0.out); rintro e w26 ⟨rfl, hb⟩; replace HB := bst hb; (try clear hb)) | (refine bx 9 #[.int .i64 0, .int .i64 0, .string (⟨#[]⟩ : ByteArray), .int .i64 0] 45 ?_; intro gb507 hg w27 hbox hb; have BK507 := Aside0.mk (hbox); have GW507 := geS hg; have GE507 := geS hg; replace HB := bst hb; clear hb hbox hg; obtain ⟨hcz28_0, hcz28_1, hcz28_2, hcz28_3, hfz28_0, hfz28_1, hfz28_2, hfz28_3⟩ := cells4 BK507.out) | (go_at_call 42; (with_reducible refine (tree_Tree_Input.calls _ _ l0 a2 x35_2 t508 t509 t510 t511 t512 _ ?side1 ?side2 A16.out).mono ?_); (case side1 => exact Kd.C_below HR0.out qB); (case side2 => exact HC0.out); rintro e w29 ⟨rfl, hb⟩; replace BK507 := kp gb507 (.cells #[.int .i64 t502, .int .i64 t503, .string t504, .int .i64 t505] 45 (0, 0)) hb; replace HB := bst hb; (try clear hb)) | (refine bx 11 #[.int .i64 0, .int .i64 0, .string (⟨#[]⟩ : ByteArray), .int .i64 0] 45 ?_; intro gb513 hg w30 hbox hb; have BK513 := Aside0.mk (hbox); have GW513 := geS hg; have GE513 := geS hg; have NB507_513 := neS gb507 hg; have NB513_507 := neT gb507 hg; replace BK507 := kb gb507 hb; replace HB := bst hb; clear hb hbox hg; have hnb31 := NB513_507.out; have hnc31 := NB507_513.out; obtain ⟨hcz32_0, hcz32_1, hcz32_2, hcz32_3, hfz32_0, hfz32_1, hfz32_2, hfz32_3⟩ := cells4 BK513.out; obtain ⟨hcz33_0, hcz33_1, hcz33_2, hcz33_3, hfz33_0, hfz33_1, hfz33_2, hfz33_3⟩ := cells4 BK507.out))
             repeat (go_quiet (first | (go_at_call 42; (with_reducible refine (tree_Tree_Input.calls _ _ l0 a1 x35_2 t502 t503 t504 t505 t506 _ ?side1 ?side2 A15.out).mono ?_); (case side1 => exact qC); (case side2 => exact HC0.out); rintro e w26 ⟨rfl, hb⟩; replace HB := bst hb; (try clear hb)) | (refine bx 9 #[.int .i64 0, .int .i64 0, .string (⟨#[]⟩ : ByteArray), .int .i64 0] 45 ?_; intro gb507 hg w27 hbox hb; have BK507 := Aside0.mk (hbox); have GW507 := geS hg; have GE507 := geS hg; replace HB := bst hb; clear hb hbox hg; obtain ⟨hcz28_0, hcz28_1, hcz28_2, hcz28_3, hfz28_0, hfz28_1, hfz28_2, hfz28_3⟩ := cells4 BK507.out) | (go_at_call 42; (with_reducible refine (tree_Tree_Input.calls _ _ l0 a2 x35_2 t508 t509 t510 t511 t512 _ ?side1 ?side2 A16.out).mono ?_); (case side1 => exact Kd.C_below HR0.out qB); (case side2 => exact HC0.out); rintro e w29 ⟨rfl, hb⟩; replace BK507 := kp gb507 (.cells #[.int .i64 t502, .int .i64 t503, .string t504, .int .i64 t505] 45 (0, 0)) hb; replace HB := bst hb; (try clear hb)) | (refine bx 11 #[.int .i64 0, .int .i64 0, .string (⟨#[]⟩ : ByteArray), .int .i64 0] 45 ?_; intro gb513 hg w30 hbox hb; have BK513 := Aside0.mk (hbox); have GW513 := geS hg; have GE513 := geS hg; have NB507_513 := neS gb507 hg; have NB513_507 := neT gb507 hg; replace BK507 := kb gb507 hb; replace HB := bst hb; clear hb hbox hg; have hnb31 := NB513_507.out; have hnc31 := NB507_513.out; obtain ⟨hcz32_0, hcz32_1, hcz32_2, hcz32_3, hfz32_0, hfz32_1, hfz32_2, hfz32_3⟩ := cells4 BK513.out; obtain ⟨hcz33_0, hcz33_1, hcz33_2, hcz33_3, hfz33_0, hfz33_1, hfz33_2, hfz33_3⟩ := cells4 BK507.out)); try go_wp2_with (first | (go_at_call 42; (with_reducible refine (tree_Tree_Input.calls _ _ l0 a1 x35_2 t502 t503 t504 t505 t506 _ ?side1 ?side2 A15.out).mono ?_); (case side1 => exact qC); (case side2 => exact HC0.out); rintro e w26 ⟨rfl, hb⟩; replace HB := bst hb; (try clear hb)) | (refine bx 9 #[.int .i64 0, .int .i64 0, .string (⟨#[]⟩ : ByteArray), .int .i64 0] 45 ?_; intro gb507 hg w27 hbox hb; have BK507 := Aside0.mk (hbox); have GW507 := geS hg; have GE507 := geS hg; replace HB := bst hb; clear hb hbox hg; obtain ⟨hcz28_0, hcz28_1, hcz28_2, hcz28_3, hfz28_0, hfz28_1, hfz28_2, hfz28_3⟩ := cells4 BK507.out) | (go_at_call 42; (with_reducible refine (tree_Tree_Input.calls _ _ l0 a2 x35_2 t508 t509 t510 t511 t512 _ ?side1 ?side2 A16.out).mono ?_); (case side1 => exact Kd.C_below HR0.out qB); (case side2 => exact HC0.out); rintro e w29 ⟨rfl, hb⟩; replace BK507 := kp gb507 (.cells #[.int .i64 t502, .int .i64 t503, .string t504, .int .i64 t505] 45 (0, 0)) hb; replace HB := bst hb; (try clear hb)) | (refine bx 11 #[.int .i64 0, .int .i64 0, .string (⟨#[]⟩ : ByteArray), .int .i64 0] 45 ?_; intro gb513 hg w30 hbox hb; have BK513 := Aside0.mk (hbox); have GW513 := geS hg; have GE513 := geS hg; have NB507_513 := neS gb507 hg; have NB513_507 := neT gb507 hg; replace BK507 := kb gb507 hb; replace HB := bst hb; clear hb hbox hg; have hnb31 := NB513_507.out; have hnc31 := NB507_513.out; obtain ⟨hcz32_0, hcz32_1, hcz32_2, hcz32_3, hfz32_0, hfz32_1, hfz32_2, hfz32_3⟩ := cells4 BK513.out; obtain ⟨hcz33_0, hcz33_1, hcz33_2, hcz33_3, hfz33_0, hfz33_1, hfz33_2, hfz33_3⟩ := cells4 BK507.out)))
             go_ret
             exact ⟨by first | rfl | (simp [errW_none, errW_some] <;> rfl) | (simp only [← hji13]; first | rfl | (simp [errW_none, errW_some] <;> rfl)) | (simp [*, errW_none, errW_some] <;> rfl), qB⟩
            ·rw [if_neg c25] at H
             have c25b0 : (!(t502 == t508) || (!(t503 == t509) || (!(t504.toList == t510.toList) || (!(t505 == t511))))) = false := by simpa using c25
             clear c25
             have H' := Aside0.mk H
             clear H
             go_wp2_with (first | (go_at_call 42; (with_reducible refine (tree_Tree_Input.calls _ _ l0 a1 x35_2 t502 t503 t504 t505 t506 _ ?side1 ?side2 A15.out).mono ?_); (case side1 => exact qC); (case side2 => exact HC0.out); rintro e w34 ⟨rfl, hb⟩; replace HB := bst hb; (try clear hb)) | (refine bx 9 #[.int .i64 0, .int .i64 0, .string (⟨#[]⟩ : ByteArray), .int .i64 0] 45 ?_; intro gb507 hg w35 hbox hb; have BK507 := Aside0.mk (hbox); have GW507 := geS hg; have GE507 := geS hg; replace HB := bst hb; clear hb hbox hg; obtain ⟨hcz36_0, hcz36_1, hcz36_2, hcz36_3, hfz36_0, hfz36_1, hfz36_2, hfz36_3⟩ := cells4 BK507.out) | (go_at_call 42; (with_reducible refine (tree_Tree_Input.calls _ _ l0 a2 x35_2 t508 t509 t510 t511 t512 _ ?side1 ?side2 A16.out).mono ?_); (case side1 => exact Kd.C_below HR0.out qB); (case side2 => exact HC0.out); rintro e w37 ⟨rfl, hb⟩; replace BK507 := kp gb507 (.cells #[.int .i64 t502, .int .i64 t503, .string t504, .int .i64 t505] 45 (0, 0)) hb; replace HB := bst hb; (try clear hb)) | (refine bx 11 #[.int .i64 0, .int .i64 0, .string (⟨#[]⟩ : ByteArray), .int .i64 0] 45 ?_; intro gb513 hg w38 hbox hb; have BK513 := Aside0.mk (hbox); have GW513 := geS hg; have GE513 := geS hg; have NB507_513 := neS gb507 hg; have NB513_507 := neT gb507 hg; replace BK507 := kb gb507 hb; replace HB := bst hb; clear hb hbox hg; have hnb39 := NB513_507.out; have hnc39 := NB507_513.out; obtain ⟨hcz40_0, hcz40_1, hcz40_2, hcz40_3, hfz40_0, hfz40_1, hfz40_2, hfz40_3⟩ := cells4 BK513.out; obtain ⟨hcz41_0, hcz41_1, hcz41_2, hcz41_3, hfz41_0, hfz41_1, hfz41_2, hfz41_3⟩ := cells4 BK507.out))
             repeat (go_quiet (first | (go_at_call 42; (with_reducible refine (tree_Tree_Input.calls _ _ l0 a1 x35_2 t502 t503 t504 t505 t506 _ ?side1 ?side2 A15.out).mono ?_); (case side1 => exact qC); (case side2 => exact HC0.out); rintro e w34 ⟨rfl, hb⟩; replace HB := bst hb; (try clear hb)) | (refine bx 9 #[.int .i64 0, .int .i64 0, .string (⟨#[]⟩ : ByteArray), .int .i64 0] 45 ?_; intro gb507 hg w35 hbox hb; have BK507 := Aside0.mk (hbox); have GW507 := geS hg; have GE507 := geS hg; replace HB := bst hb; clear hb hbox hg; obtain ⟨hcz36_0, hcz36_1, hcz36_2, hcz36_3, hfz36_0, hfz36_1, hfz36_2, hfz36_3⟩ := cells4 BK507.out) | (go_at_call 42; (with_reducible refine (tree_Tree_Input.calls _ _ l0 a2 x35_2 t508 t509 t510 t511 t512 _ ?side1 ?side2 A16.out).mono ?_); (case side1 => exact Kd.C_below HR0.out qB); (case side2 => exact HC0.out); rintro e w37 ⟨rfl, hb⟩; replace BK507 := kp gb507 (.cells #[.int .i64 t502, .int .i64 t503, .string t504, .int .i64 t505] 45 (0, 0)) hb; replace HB := bst hb; (try clear hb)) | (refine bx 11 #[.int .i64 0, .int .i64 0, .string (⟨#[]⟩ : ByteArray), .int .i64 0] 45 ?_; intro gb513 hg w38 hbox hb; have BK513 := Aside0.mk (hbox); have GW513 := geS hg; have GE513 := geS hg; have NB507_513 := neS gb507 hg; have NB513_507 := neT gb507 hg; replace BK507 := kb gb507 hb; replace HB := bst hb; clear hb hbox hg; have hnb39 := NB513_507.out; have hnc39 := NB507_513.out; obtain ⟨hcz40_0, hcz40_1, hcz40_2, hcz40_3, hfz40_0, hfz40_1, hfz40_2, hfz40_3⟩ := cells4 BK513.out; obtain ⟨hcz41_0, hcz41_1, hcz41_2, hcz41_3, hfz41_0, hfz41_1, hfz41_2, hfz41_3⟩ := cells4 BK507.out)); try go_wp2_with (first | (go_at_call 42; (with_reducible refine (tree_Tree_Input.calls _ _ l0 a1 x35_2 t502 t503 t504 t505 t506 _ ?side1 ?side2 A15.out).mono ?_); (case side1 => exact qC); (case side2 => exact HC0.out); rintro e w34 ⟨rfl, hb⟩; replace HB := bst hb; (try clear hb)) | (refine bx 9 #[.int .i64 0, .int .i64 0, .string (⟨#[]⟩ : ByteArray), .int .i64 0] 45 ?_; intro gb507 hg w35 hbox hb; have BK507 := Aside0.mk (hbox); have GW507 := geS hg; have GE507 := geS hg; replace HB := bst hb; clear hb hbox hg; obtain ⟨hcz36_0, hcz36_1, hcz36_2, hcz36_3, hfz36_0, hfz36_1, hfz36_2, hfz36_3⟩ := cells4 BK507.out) | (go_at_call 42; (with_reducible refine (tree_Tree_Input.calls _ _ l0 a2 x35_2 t508 t509 t510 t511 t512 _ ?side1 ?side2 A16.out).mono ?_); (case side1 => exact Kd.C_below HR0.out qB); (case side2 => exact HC0.out); rintro e w37 ⟨rfl, hb⟩; replace BK507 := kp gb507 (.cells #[.int .i64 t502, .int .i64 t503, .string t504, .int .i64 t505] 45 (0, 0)) hb; replace HB := bst hb; (try clear hb)) | (refine bx 11 #[.int .i64 0, .int .i64 0, .string (⟨#[]⟩ : ByteArray), .int .i64 0] 45 ?_; intro gb513 hg w38 hbox hb; have BK513 := Aside0.mk (hbox); have GW513 := geS hg; have GE513 := geS hg; have NB507_513 := neS gb507 hg; have NB513_507 := neT gb507 hg; replace BK507 := kb gb507 hb; replace HB := bst hb; clear hb hbox hg; have hnb39 := NB513_507.out; have hnc39 := NB507_513.out; obtain ⟨hcz40_0, hcz40_1, hcz40_2, hcz40_3, hfz40_0, hfz40_1, hfz40_2, hfz40_3⟩ := cells4 BK513.out; obtain ⟨hcz41_0, hcz41_1, hcz41_2, hcz41_3, hfz41_0, hfz41_1, hfz41_2, hfz41_3⟩ := cells4 BK507.out)))
             go_roundg k2
             case measure => have := HJ3.out; have := HK2.out; omega
             case rel => exact ⟨(wrap64 (x35_2 + 1)), (by first | rfl | (simp; done) | (simp [*]; done)), H', ⟨by have := HJ3.out; have := HK2.out; omega⟩, ⟨qB⟩⟩
          ·rw [if_neg c14] at H
           have c14b0 := decide_eq_false c14
           clear c14
           obtain rfl := Option.some.inj H
           go_wp2
           repeat (go_quiet (fail); try go_wp2)
           go_ret
           exact ⟨by first | rfl | (simp [errW_none, errW_some] <;> rfl) | (simp only [← hji13]; first | rfl | (simp [errW_none, errW_some] <;> rfl)) | (simp [*, errW_none, errW_some] <;> rfl), qB⟩
       ·rw [if_neg c12] at H
        exact absurd H (by simp)
      ·rw [if_neg c11] at H
       exact absurd H (by simp)
     ·rw [if_neg c10] at H
      exact absurd H (by simp)
    ·rw [if_neg c9] at H
     exact absurd H (by simp)
end Go.Proofs.YtbngfhlciebeeaaDoor.L
end
section
namespace Go.Proofs.YtbngfhlciebeeaaDoor.Sp
set_option linter.unusedVariables false
set_option linter.unusedSimpArgs false
open Go.RowKit Go.Proofs.YtbngfhlciebeeaaDoor.L Go.Proofs.YtbngfhlciebeeaaDoorW.PrintWords
theorem rd56 {l : List S56} {j : Nat} (h : j < l.length) : rd_T56 l (j : Int) = l[j] := by
  unfold rd_T56
  rw [Int.toNat_natCast, List.getD_eq_getElem?_getD, List.getElem?_eq_getElem h]; rfl
def smallO (l : List S56) : Bool := l.all fun o => decide (o.f3.f2.size ≤ 200)
theorem smallOp_l (l : List S56) (hl : l.length ≤ 9223372036854775807) (d : Nat) : ∀ j, j ≤ l.length → l.length - j = d →
    Ev (fun k => whirligiglaw22_small.l0 k l l (l.length : Int) (j : Int)) (smallO (l.drop j) && decide (l.length ≤ 700)) := by
  induction d with
  | zero =>
    intro j hj hd
    refine Ev.succ ?_
    simp only [whirligiglaw22_small.l0]
    refine Ev.neg (by omega) (Ev.some ?_)
    rw [List.drop_eq_nil_of_le (by omega)]
    simp [smallO]
    omega
  | succ d ih =>
    intro j hj hd
    have hjl : j < l.length := by omega
    refine Ev.succ ?_
    simp only [whirligiglaw22_small.l0]
    rw [rd56 hjl, wrap_at (by omega) (by omega), List.drop_eq_getElem_cons hjl]
    refine Ev.pos (by omega) (Ev.pos (by omega) (Ev.pos (by omega) ?_))
    by_cases h : (l[j].f3.f2.size : Int) > 200
    · refine Ev.pos h (Ev.some ?_)
      simp only [smallO, List.all_cons]
      rw [decide_eq_false (by omega)]
      simp
    · refine Ev.neg h ?_
      have := ih (j + 1) (by omega) (by omega)
      simp only [smallO, List.all_cons]
      rw [decide_eq_true (show l[j].f3.f2.size ≤ 200 by omega), Bool.true_and]
      exact this
theorem smallOp_ev (l : List S56) (hl : l.length ≤ 9223372036854775807) : Ev (fun k => whirligiglaw22_small.f k l) (smallO l && decide (l.length ≤ 700)) := by
  unfold whirligiglaw22_small.f
  exact smallOp_l l hl _ 0 (by omega) rfl
theorem smallO_mem {l : List S56} (h : smallO l = true) {o : S56} (ho : o ∈ l) : o.f3.f2.size ≤ 200 := by
  have := (List.all_eq_true.1 h) o ho
  simpa using this
def opL (l : List S43) (o : S56) : List S43 := if o.f0 = 1 then (growL l o.f1).1 else if o.f0 = 2 then (putL l o.f1 o.f2 o.f3).1 else l
theorem okT_op {l : List S43} (h : okT l) {o : S56} (ho : o.f3.f2.size ≤ 200) : okT (opL l o) := by
  unfold opL
  by_cases h1 : o.f0 = 1
  · rw [if_pos h1]; exact okT_grow h _
  · rw [if_neg h1]
    by_cases h2 : o.f0 = 2
    · rw [if_pos h2]; exact okT_put h _ _ ho
    · rw [if_neg h2]; exact h
theorem grow_ok {l : List S43} (h : okT l) (b : Int) : tree_Tree_Grow.f l b = some (growL l b) := grow_eq (okT_small h) (fun x hx => (okT_len h hx).1) b
theorem put_ok {l : List S43} (h : okT l) (b at_ : Int) (x : S45) (hx : x.f2.size ≤ 200) : Ev (fun k => tree_Tree_Put.f k l b at_ x.f0 x.f1 x.f2 x.f3) (putL l b at_ x) := put_ev (okT_small h) b at_ x (by omega)
def inOut (o : Option S45) : Int × Int × ByteArray × Int × Bool := match o with | some x => (x.f0, x.f1, x.f2, x.f3, true) | none => (0, 0, ⟨#[]⟩, 0, false)
def findAt (i : Int) (xs : List S45) : Option S45 := xs.find? (fun x => x.f0 == i)
theorem idx_find (i : Int) (xs : List S45) : (0 ≤ idxAt i xs → findAt i xs = some (rd_T45 xs (idxAt i xs))) ∧ (¬ 0 ≤ idxAt i xs → findAt i xs = none) := by
  unfold idxAt findAt
  cases h : xs.findIdx? (fun x => x.f0 == i) with
  | none =>
    refine ⟨fun h2 => by simp at h2, fun _ => ?_⟩
    rw [List.findIdx?_eq_none_iff] at h
    rw [List.find?_eq_none]
    intro x hx
    have := h x hx
    simpa using this
  | some j =>
    refine ⟨fun _ => ?_, fun h2 => absurd (by simp only; omega) h2⟩
    rw [List.findIdx?_eq_some_iff_getElem] at h
    obtain ⟨hl, he, hno⟩ := h
    simp only
    rw [rd45 hl, List.find?_eq_some_iff_getElem]
    exact ⟨he, j, hl, rfl, fun k hk => by simpa using hno k hk⟩
theorem input_in {t : List S43} {n : Nat} (hn : n < t.length) (i : Int) : tree_Tree_Input.f t (n : Int) i = some (inOut (findAt i t[n].f3)) := by
  obtain ⟨h1, h2⟩ := idx_find i t[n].f3
  unfold tree_Tree_Input.f
  rw [if_pos ⟨by omega, by omega⟩, rd43 hn]
  by_cases h : 0 ≤ idxAt i t[n].f3
  · rw [if_pos h, h1 h]; rfl
  · rw [if_neg h, h2 h]; rfl
theorem input_out {t : List S43} {a : Int} (h : ¬ (0 ≤ a ∧ a < (t.length : Int))) (i : Int) : tree_Tree_Input.f t a i = some (inOut none) := by
  unfold tree_Tree_Input.f
  rw [if_neg h]; rfl
def movesB (b : S43) : List S47 := gen 0 b.f2.toNat b.f3
def mvOf (o : Option S45) : S47 := match o with | some x => i47 x | none => z47
theorem moves_at {b : S43} (hg : goodB b.f2 b.f3 = true) {j : Nat} (hj : (j : Int) < b.f2) : ∃ h : j < (movesB b).length, (movesB b)[j] = mvOf (findAt (j : Int) b.f3) := by
  obtain ⟨h0, h1, h2⟩ := goodB_iff.1 hg
  have hl : j < (movesB b).length := by unfold movesB; rw [gen_length]; omega
  refine ⟨hl, ?_⟩
  have := gen_at b.f2.toNat 0 b.f3 (-1) h2 (by omega) j (by omega)
  rw [Nat.zero_add] at this
  have h3 : (movesB b)[j]? = some (mvOf (findAt (j : Int) b.f3)) := this.trans (by unfold mvOf findAt; rfl)
  rw [List.getElem?_eq_getElem hl] at h3
  exact Option.some.inj h3
theorem findAt_mem {i : Int} {xs : List S45} {x : S45} (h : findAt i xs = some x) : x ∈ xs ∧ x.f0 = i := by
  unfold findAt at h
  exact ⟨List.mem_of_find?_eq_some h, by have := List.find?_some h; simpa using this⟩
theorem rightI_pos {x : S45} (h : rightI x = true) : 0 < x.f1 := by
  unfold rightI at h
  by_cases h1 : x.f1 = 1
  · omega
  · rw [if_neg h1] at h
    by_cases h2 : x.f1 = 2
    · omega
    · rw [if_neg h2] at h; cases h
theorem findAt_right {b : S43} (hg : goodB b.f2 b.f3 = true) {i : Int} {x : S45} (h : findAt i b.f3 = some x) : rightI x = true ∧ 0 ≤ i ∧ i < b.f2 := by
  obtain ⟨h0, h1, h2⟩ := goodB_iff.1 hg
  obtain ⟨hm, he⟩ := findAt_mem h
  obtain ⟨a, c, d⟩ := rising_mem h2 x hm
  exact ⟨a, by omega, by omega⟩
theorem cp_comm : ∀ (u v : List S47), cp u v = cp v u
  | [], [] => rfl
  | [], y :: v => rfl
  | x :: u, [] => rfl
  | x :: u, y :: v => by
    simp only [cp]
    by_cases h : eqJ x y = true
    · rw [if_pos h, if_pos (eqJ_iff.2 (eqJ_iff.1 h).symm), cp_comm u v]
    · rw [if_neg h, if_neg (fun h2 => h (eqJ_iff.2 (eqJ_iff.1 h2).symm))]
theorem alike {a b : S43} (ha : goodB a.f2 a.f3 = true) (hb : goodB b.f2 b.f3 = true) (i : Int) :
    (if ((inOut (findAt i a.f3)).2.2.2.2 != (inOut (findAt i b.f3)).2.2.2.2) = true then true else
      (!((inOut (findAt i a.f3)).1 == (inOut (findAt i b.f3)).1) || (!((inOut (findAt i a.f3)).2.1 == (inOut (findAt i b.f3)).2.1) || (!((inOut (findAt i a.f3)).2.2.1.toList == (inOut (findAt i b.f3)).2.2.1.toList) || (!((inOut (findAt i a.f3)).2.2.2.1 == (inOut (findAt i b.f3)).2.2.2.1)))))) = !(eqJ (mvOf (findAt i a.f3)) (mvOf (findAt i b.f3))) := by
  cases h1 : findAt i a.f3 with
  | none =>
    cases h2 : findAt i b.f3 with
    | none => simp [inOut, mvOf, eqJ]
    | some y =>
      have hk := kind_ne (findAt_right hb h2).1
      have : eqJ z47 (i47 y) = false := by
        cases he : eqJ z47 (i47 y) with
        | false => rfl
        | true => exact absurd (eqJ_iff.1 he).symm hk
      simp [inOut, mvOf, this]
  | some x =>
    cases h2 : findAt i b.f3 with
    | none =>
      have hk := kind_ne (findAt_right ha h1).1
      have : eqJ (i47 x) z47 = false := by
        cases he : eqJ (i47 x) z47 with
        | false => rfl
        | true => exact absurd (eqJ_iff.1 he) hk
      simp [inOut, mvOf, this]
    | some y =>
      simp only [inOut, mvOf, eqJ, i47, Bool.not_and, bne_self_eq_false]
      simp
theorem commonT_l {t : List S43} {m n : Nat} (hm : m < t.length) (hn : n < t.length) (ha : goodB t[m].f2 t[m].f3 = true) (hb : goodB t[n].f2 t[n].f3 = true) (d : Nat) : ∀ j : Nat, (j : Int) ≤ mn t[m].f2 t[n].f2 → (mn t[m].f2 t[n].f2 - j).toNat = d →
    Ev (fun k => tree_Tree_Common.l0 k t (m : Int) (n : Int) (mn t[m].f2 t[n].f2) (mn t[m].f2 t[n].f2) (j : Int)) ((j + cp ((movesB t[m]).drop j) ((movesB t[n]).drop j) : Nat) : Int) := by
  have hmn : mn t[m].f2 t[n].f2 ≤ t[m].f2 ∧ mn t[m].f2 t[n].f2 ≤ t[n].f2 ∧ (mn t[m].f2 t[n].f2 = t[m].f2 ∨ mn t[m].f2 t[n].f2 = t[n].f2) := by
    unfold mn
    split <;> omega
  have ga := goodB_iff.1 ha
  have gb := goodB_iff.1 hb
  induction d with
  | zero =>
    intro j hj hd
    refine Ev.succ ?_
    simp only [tree_Tree_Common.l0]
    refine Ev.neg (by omega) (Ev.some ?_)
    have : cp ((movesB t[m]).drop j) ((movesB t[n]).drop j) = 0 := by
      rcases hmn.2.2 with h | h
      · rw [List.drop_eq_nil_of_le (by unfold movesB; rw [gen_length]; omega)]
        cases (movesB t[n]).drop j <;> rfl
      · rw [show (movesB t[n]).drop j = [] from List.drop_eq_nil_of_le (by unfold movesB; rw [gen_length]; omega)]
        cases (movesB t[m]).drop j <;> rfl
    rw [this]
    omega
  | succ d ih =>
    intro j hj hd
    obtain ⟨la, ea⟩ := moves_at ha (show (j : Int) < t[m].f2 by omega)
    obtain ⟨lb, eb⟩ := moves_at hb (show (j : Int) < t[n].f2 by omega)
    have hnext := ih (j + 1) (by omega) (by omega)
    rw [List.drop_eq_getElem_cons la, List.drop_eq_getElem_cons lb, ea, eb]
    simp only [cp]
    have hal := alike ha hb (j : Int)
    refine Ev.succ ?_
    simp only [tree_Tree_Common.l0]
    rw [wrap_at (by omega) (by omega)]
    refine Ev.pos (by omega) (Ev.bind_some (input_in hm _) (Ev.bind_some (input_in hn _) ?_))
    by_cases h1 : ((inOut (findAt (j : Int) t[m].f3)).2.2.2.2 != (inOut (findAt (j : Int) t[n].f3)).2.2.2.2) = true
    · rw [if_pos h1] at hal
      rw [if_neg (by rw [Bool.eq_not] at hal; simpa using hal)]
      exact Ev.pos h1 (Ev.some (by omega))
    · rw [if_neg h1] at hal
      refine Ev.neg h1 ?_
      rw [hal]
      cases he : eqJ (mvOf (findAt (j : Int) t[m].f3)) (mvOf (findAt (j : Int) t[n].f3)) with
      | false => exact Ev.pos rfl (Ev.some (by simp))
      | true =>
        refine Ev.neg (by decide) ?_
        rw [if_pos rfl]
        have e : j + (cp ((movesB t[m]).drop (j + 1)) ((movesB t[n]).drop (j + 1)) + 1) = j + 1 + cp ((movesB t[m]).drop (j + 1)) ((movesB t[n]).drop (j + 1)) := by omega
        rw [e]
        exact hnext
theorem commonT_in {t : List S43} (h : okT t) {m n : Nat} (hm : m < t.length) (hn : n < t.length) : Ev (fun k => tree_Tree_Common.f k t (m : Int) (n : Int)) ((cp (movesB t[m]) (movesB t[n]) : Nat) : Int) := by
  have ha := okT_good h (List.getElem_mem hm)
  have hb := okT_good h (List.getElem_mem hn)
  unfold tree_Tree_Common.f
  refine Ev.bind_some (has_in ⟨by omega, by omega⟩) (Ev.pos rfl (Ev.bind_some (has_in ⟨by omega, by omega⟩) ?_))
  refine Ev.succ ?_
  simp only [tree_Tree_Common.j0]
  rw [rd43 hm, rd43 hn]
  refine Ev.neg (by decide) (Ev.pos (by omega) (Ev.pos (by omega) (Ev.pos (by omega) (Ev.pos (by omega) ?_))))
  have := commonT_l hm hn ha hb _ 0 (by have := goodB_iff.1 ha; have := goodB_iff.1 hb; unfold mn; split <;> omega) rfl
  simpa using this
theorem commonT_out {t : List S43} {a b : Int} (h : ¬ (0 ≤ a ∧ a < (t.length : Int)) ∨ ¬ (0 ≤ b ∧ b < (t.length : Int))) : Ev (fun k => tree_Tree_Common.f k t a b) 0 := by
  have hj : Ev (fun k => tree_Tree_Common.j0 k t a b true) 0 := by
    refine Ev.succ ?_
    simp only [tree_Tree_Common.j0]
    exact Ev.pos trivial (Ev.some rfl)
  unfold tree_Tree_Common.f
  by_cases h1 : 0 ≤ a ∧ a < (t.length : Int)
  · have h2 : ¬ (0 ≤ b ∧ b < (t.length : Int)) := by
      rcases h with h | h
      · exact absurd h1 h
      · exact h
    exact Ev.bind_some (has_in h1) (Ev.pos rfl (Ev.bind_some (has_out h2) hj))
  · exact Ev.bind_some (has_out h1) (Ev.neg (by decide) hj)
end Go.Proofs.YtbngfhlciebeeaaDoor.Sp
end
section
namespace Go.Proofs.YtbngfhlciebeeaaDoor.Opn
set_option linter.unusedVariables false
set_option linter.unusedSimpArgs false
open Go.RowKit Go.ChangeShapes Go.WideShapes Go.Proofs.YtbngfhlciebeeaaDoorW.PrintWords
def I64 (n : Int) : Prop := -9223372036854775808 ≤ n ∧ n ≤ 9223372036854775807
theorem i64_of {n : Int} (h : (Lit.int .i64 n).wf = true) : I64 n := bounds_i64 h
section
variable {H : Type} {enc : TypeId × Value → H} {w : World} {base : Nat} {sp : Nat → Bool} {held : Bool}
theorem opens3 : Opens enc Tryd.prog w base sp held 3 (Kd.int .i64) I64 := opens_imp (fun _ h => i64_of h) (opens_int Tryd.underlying3)
theorem opens2 : Opens enc Tryd.prog w base sp held 2 (Kd.int .i64) I64 := opens_imp (fun _ h => i64_of h) (opens_int Tryd.underlying2)
theorem opens9 : Opens enc Tryd.prog w base sp held 9 Kd.string (fun s => s.size ≤ maxLen) := opens_string Tryd.underlying9
theorem opens45 : Opens enc Tryd.prog w base sp held 45 L.k45 (fun x => I64 x.f0 ∧ I64 x.f1 ∧ x.f2.size ≤ maxLen ∧ I64 x.f3) :=
  opens_iso (fun x => ⟨x.1, x.2.1, x.2.2.1, x.2.2.2⟩) (fun _ => rfl)
    (opens_struct Tryd.underlying45 (tot := 4) (by kernel_rfl) (opensF_cons opens3 rfl (opensF_cons opens3 (by kernel_rfl) (opensF_cons opens9 (by kernel_rfl) (opensF_one opens2 (by kernel_rfl) (by kernel_rfl))))))
theorem opens56 : Opens enc Tryd.prog w base sp held 56 L.k56 (fun x => I64 x.f0 ∧ I64 x.f1 ∧ I64 x.f2 ∧ (I64 x.f3.f0 ∧ I64 x.f3.f1 ∧ x.f3.f2.size ≤ maxLen ∧ I64 x.f3.f3)) :=
  opens_iso (fun x => ⟨x.1, x.2.1, x.2.2.1, x.2.2.2⟩) (fun _ => rfl)
    (opens_struct Tryd.underlying56 (tot := 7) (by kernel_rfl) (opensF_cons opens3 rfl (opensF_cons opens3 (by kernel_rfl) (opensF_cons opens3 (by kernel_rfl) (opensF_one opens45 (by kernel_rfl) (by kernel_rfl))))))
theorem opens52 : Opens enc Tryd.prog w base sp held 52 (Kd.slice 56 L.k56) (fun l => l.length ≤ maxLen ∧ ∀ x ∈ l, I64 x.f0 ∧ I64 x.f1 ∧ I64 x.f2 ∧ (I64 x.f3.f0 ∧ I64 x.f3.f1 ∧ x.f3.f2.size ≤ maxLen ∧ I64 x.f3.f3)) := opens_slice Tryd.underlying52 (by kernel_rfl) opens56
end
end Go.Proofs.YtbngfhlciebeeaaDoor.Opn
end
