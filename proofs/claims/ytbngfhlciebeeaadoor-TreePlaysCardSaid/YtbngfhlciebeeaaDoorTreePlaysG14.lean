/- Printed and hand-written steps towards the row (TreePlays), those that it reaches. -/
import Derived.Test.YtbngfhlciebeeaaDoorTreePlaysG13
import Derived.Test.YtbngfhlciebeeaaDoorTreePlaysG4
import Derived.Test.YtbngfhlciebeeaaDoorTreePlaysG5
import Derived.Test.YtbngfhlciebeeaaDoorTreePlaysG9
import Derived.Test.YtbngfhlciebeeaaDoorTreePlaysG12
import Derived.KernelRfl
section
namespace Go.Proofs.YtbngfhlciebeeaaDoor.Sp
set_option linter.unusedVariables false
set_option linter.unusedSimpArgs false
open Go.RowKit Go.Proofs.YtbngfhlciebeeaaDoor.L Go.Proofs.YtbngfhlciebeeaaDoorW.PrintWords
def meanWords : List (List UInt8) := [[99, 104, 97, 114, 116], [118, 97, 114], [115, 116, 97, 116, 101], [112, 97, 114, 97, 108, 108, 101, 108], [102, 105, 110, 97, 108], [100, 101, 101, 112], [115, 104, 97, 108, 108, 111, 119], [101, 110, 116, 101, 114], [101, 120, 105, 116], [111, 110], [97, 117, 116, 111], [101, 110, 100], [105, 102], [103, 111], [105, 110, 110, 101, 114], [100, 111], [115, 101, 116], [114, 97, 105, 115, 101], [115, 101, 110, 100], [99, 97, 110, 99, 101, 108], [108, 111, 103], [116, 114, 117, 101], [102, 97, 108, 115, 101], [110, 111, 116], [97, 110, 100], [111, 114], [105, 110]]
def meanList : List UInt8 := [32, 99, 104, 97, 114, 116, 32, 118, 97, 114, 32, 115, 116, 97, 116, 101, 32, 112, 97, 114, 97, 108, 108, 101, 108, 32, 102, 105, 110, 97, 108, 32, 100, 101, 101, 112, 32, 115, 104, 97, 108, 108, 111, 119, 32, 101, 110, 116, 101, 114, 32, 101, 120, 105, 116, 32, 111, 110, 32, 97, 117, 116, 111, 32, 101, 110, 100, 32, 105, 102, 32, 103, 111, 32, 105, 110, 110, 101, 114, 32, 100, 111, 32, 115, 101, 116, 32, 114, 97, 105, 115, 101, 32, 115, 101, 110, 100, 32, 99, 97, 110, 99, 101, 108, 32, 108, 111, 103, 32, 116, 114, 117, 101, 32, 102, 97, 108, 115, 101, 32, 110, 111, 116, 32, 97, 110, 100, 32, 111, 114, 32, 105, 110, 32]
def meanAll : ByteArray := ⟨#[32, 99, 104, 97, 114, 116, 32, 118, 97, 114, 32, 115, 116, 97, 116, 101, 32, 112, 97, 114, 97, 108, 108, 101, 108, 32, 102, 105, 110, 97, 108, 32, 100, 101, 101, 112, 32, 115, 104, 97, 108, 108, 111, 119, 32, 101, 110, 116, 101, 114, 32, 101, 120, 105, 116, 32, 111, 110, 32, 97, 117, 116, 111, 32, 101, 110, 100, 32, 105, 102, 32, 103, 111, 32, 105, 110, 110, 101, 114, 32, 100, 111, 32, 115, 101, 116, 32, 114, 97, 105, 115, 101, 32, 115, 101, 110, 100, 32, 99, 97, 110, 99, 101, 108, 32, 108, 111, 103, 32, 116, 114, 117, 101, 32, 102, 97, 108, 115, 101, 32, 110, 111, 116, 32, 97, 110, 100, 32, 111, 114, 32, 105, 110, 32]⟩
theorem meanAll_list : meanAll.data.toList = meanList := rfl
set_option maxRecDepth 100000 in
theorem meanAll_size : meanAll.size = 134 := rfl
set_option maxRecDepth 100000 in
theorem meanList_len : meanList.length = 134 := rfl
def hitAt (s : List UInt8) (j : Nat) : Bool := decide (j + s.length + 2 ≤ 134) && (cut meanList j (j + s.length + 2) == 32 :: s ++ [32])
theorem words_hit : meanWords.all (fun s => (List.range 134).any (hitAt s)) = true := by kernel_rfl
theorem words_inner : meanWords.all (fun s => s.all innerB && !s.isEmpty) = true := by kernel_rfl
theorem hits_words : ((List.range 134).all fun i => (List.range 134).all fun n => !(decide (i + n + 2 ≤ 134) && (meanList.getD i 0 == 32) && (meanList.getD (i + n + 1) 0 == 32)) ||
    ((cut meanList (i + 1) (i + 1 + n)).isEmpty || !((cut meanList (i + 1) (i + 1 + n)).all innerB) || meanWords.contains (cut meanList (i + 1) (i + 1 + n)))) = true := by kernel_rfl
theorem hit_word {s : List UInt8} {j : Nat} (h : hitAt s j = true) (h0 : s ≠ []) (h1 : s.all innerB = true) : s ∈ meanWords := by
  unfold hitAt at h
  simp only [Bool.and_eq_true, decide_eq_true_eq, beq_iff_eq] at h
  obtain ⟨h2, h3⟩ := h
  have hl := meanList_len
  have ht := List.all_eq_true.1 (List.all_eq_true.1 hits_words j (List.mem_range.2 (by omega))) s.length (List.mem_range.2 (by omega))
  have e1 : cut meanList j (j + s.length + 2) = [meanList.getD j 0] ++ (cut meanList (j + 1) (j + 1 + s.length) ++ [meanList.getD (j + s.length + 1) 0]) := by
    rw [← cut_append (show j ≤ j + 1 by omega) (show j + 1 ≤ j + s.length + 2 by omega), ← cut_append (show j + 1 ≤ j + 1 + s.length by omega) (show j + 1 + s.length ≤ j + s.length + 2 by omega), cut_one (by omega),
      show j + 1 + s.length = j + s.length + 1 from by omega, cut_one (by omega)]
  rw [e1] at h3
  have e2 := List.cons.inj (show meanList.getD j 0 :: (cut meanList (j + 1) (j + 1 + s.length) ++ [meanList.getD (j + s.length + 1) 0]) = 32 :: (s ++ [32]) from h3)
  have e3 := List.append_inj e2.2 (by rw [cut_length (by omega)]; omega)
  have e4 := (List.cons.inj e3.2).1
  rw [e3.1, e2.1, e4, decide_eq_true h2, h1] at ht
  cases s with
  | nil => exact absurd rfl h0
  | cons c s => simpa using ht
theorem if_mem {x w : List UInt8} {ws : List (List UInt8)} {r : Option Bool} (h : r = some (decide (x ∈ ws))) : (if x = w then some true else r) = some (decide (x ∈ w :: ws)) := by
  by_cases hx : x = w
  · rw [if_pos hx, decide_eq_true (by rw [hx]; exact List.mem_cons_self)]
  · rw [if_neg hx, h]
    simp [hx]
theorem tMeans_eq (s : ByteArray) : tok_Means.f s = some (decide (s.data.toList ∈ meanWords)) := by
  have key : ∀ x : List UInt8, s.toList = x → tok_Means.f s = some (decide (x ∈ meanWords)) := fun x hx => by
    unfold tok_Means.f meanWords
    rw [hx]
    repeat' first
      | exact rfl
      | refine if_mem ?_
  exact key _ (ByteArray.toList_eq s)
theorem takeWhile_all {p : UInt8 → Bool} : ∀ (L : List UInt8), L.all p = true → L.takeWhile p = L
  | [], _ => rfl
  | c :: L, h => by
    simp only [List.all_cons, Bool.and_eq_true] at h
    rw [List.takeWhile_cons_of_pos h.1, takeWhile_all L h.2]
theorem pend_all {p : UInt8 → Bool} (L : List UInt8) : pend p L 0 = L.length ↔ L.all p = true := by
  unfold pend
  rw [List.drop_zero, Nat.zero_add]
  constructor
  · intro h
    rw [← (List.takeWhile_prefix p).eq_of_length h]
    exact List.all_takeWhile
  · intro h
    rw [takeWhile_all L h]
theorem rMeans_l (s : ByteArray) (hs : s.size ≤ 1000000) (d : Nat) : ∀ i, 200 - i = d → i ≤ 140 → (∀ j, j < i → hitAt s.data.toList j = false) →
    Ev (fun k => whirligigref02_Means.l0 k s meanAll (i : Int)) (decide (s.data.toList ∈ meanWords)) := by
  have hl := len_size s
  have hms := meanAll_size
  induction d with
  | zero => intro i h0 h1; omega
  | succ d ih =>
    intro i hd hi hno
    refine Ev.succ ?_
    simp only [whirligigref02_Means.l0]
    rw [wrap_at (x := (i : Int) + (s.size : Int)) (by omega) (by omega), wrap_at (x := (i : Int) + (s.size : Int) + 2) (by omega) (by omega), wrap_at (x := (i : Int) + 1) (by omega) (by omega)]
    by_cases hc : i + s.size + 2 ≤ 134
    · refine Ev.pos (by omega) (Ev.pos (by omega) (Ev.pos (by omega) (Ev.pos (by omega) (Ev.pos (by omega) ?_))))
      have hext : meanAll.extract (i : Int).toNat ((i : Int) + (s.size : Int) + 2).toNat = ⟨(cut meanList i (i + s.data.toList.length + 2)).toArray⟩ := by
        rw [show ((i : Int) + (s.size : Int) + 2).toNat = i + s.data.toList.length + 2 from by omega, Int.toNat_natCast, ext_list, meanAll_list]
      have hcat : ((⟨#[32]⟩ : ByteArray) ++ s) ++ (⟨#[32]⟩ : ByteArray) = ⟨(32 :: s.data.toList ++ [32]).toArray⟩ := by
        have e : s = ⟨s.data.toList.toArray⟩ := by simp
        rw [e]
        show ((⟨([32] : List UInt8).toArray⟩ : ByteArray) ++ _) ++ ⟨([32] : List UInt8).toArray⟩ = _
        rw [mk_append, mk_append]
        simp
      by_cases hm : cut meanList i (i + s.data.toList.length + 2) = 32 :: s.data.toList ++ [32]
      · have hit : hitAt s.data.toList i = true := by
          unfold hitAt
          rw [hm, beq_self_eq_true, decide_eq_true (by omega)]; rfl
        refine Ev.pos ?_ ?_
        · rw [hext, hcat, hm]
        · by_cases h0 : s.data.toList = []
          · refine Ev.pos (by rw [ByteArray.toList_eq]; exact h0) (Ev.some ?_)
            rw [h0]; rfl
          · refine Ev.neg (by rw [ByteArray.toList_eq]; exact h0) (Ev.bind (rword_ev s (by omega) 0 (by omega)) (Ev.some ?_))
            rw [Nat.sub_zero]
            by_cases h1 : s.data.toList.all innerB = true
            · have h2 := (pend_all (p := innerB) s.data.toList).2 h1
              rw [decide_eq_true (hit_word hit h0 h1), h2, hl, beq_self_eq_true]
            · have h2 : pend innerB s.data.toList 0 ≠ s.data.toList.length := fun e => h1 ((pend_all _).1 e)
              have h3 : s.data.toList ∉ meanWords := fun hm2 => by
                have := List.all_eq_true.1 words_inner _ hm2
                simp only [Bool.and_eq_true] at this
                exact h1 this.1
              rw [decide_eq_false h3, beq_eq_false_iff_ne]
              omega
      · have hmiss : hitAt s.data.toList i = false := by
          unfold hitAt
          rw [beq_eq_false_iff_ne.2 hm, Bool.and_false]
        refine Ev.neg ?_ ?_
        · rw [hext, hcat, ByteArray.toList_eq, ByteArray.toList_eq]
          exact hm
        · exact ih (i + 1) (by omega) (by omega) (fun j hj => by
            by_cases h : j = i
            · subst h; exact hmiss
            · exact hno j (by omega))
    · refine Ev.neg (by omega) (Ev.some ?_)
      symm
      refine decide_eq_false fun hm => ?_
      obtain ⟨j, hj, hh⟩ := List.any_eq_true.1 (List.all_eq_true.1 words_hit _ hm)
      have hji : ¬ j < i := fun h => by rw [hno j h] at hh; cases hh
      unfold hitAt at hh
      simp only [Bool.and_eq_true, decide_eq_true_eq] at hh
      omega
theorem rMeans_ev (s : ByteArray) (hs : s.size ≤ 1000000) : Ev (fun k => whirligigref02_Means.f k s) (decide (s.data.toList ∈ meanWords)) := by
  unfold whirligigref02_Means.f
  exact rMeans_l s hs _ 0 rfl (by omega) (fun j hj => absurd hj (by omega))
theorem tokenAt_kind {L : List UInt8} {i : Nat} {k : Int} {t : List UInt8} {n : Int} {e : Nat} (h : tokenAt L i = .ok (k, t, n, e)) : 1 ≤ k := by
  have hp : ∀ (f e : Nat) (k k' : Int) (e' : Nat), 1 ≤ k → pathGo L f e k = some (k', e') → 1 ≤ k' := by
    intro f
    induction f with
    | zero => intro e k k' e' _ h; simp [pathGo] at h
    | succ f ih =>
      intro e k k' e' hk h
      unfold pathGo at h
      split at h
      · split at h
        · cases h
        · exact ih _ 2 k' e' (by omega) h
      · simp only [Option.some.injEq, Prod.mk.injEq] at h
        omega
  unfold tokenAt at h
  repeat' split at h
  all_goals first
    | (cases h; done)
    | (rename_i hp2 _; have := hp _ _ _ _ _ (by omega) hp2; simp only [Except.ok.injEq, Prod.mk.injEq] at h; omega)
    | (simp only [Except.ok.injEq, Prod.mk.injEq] at h; omega)
theorem lexGo_kind (L : List UInt8) : ∀ (f i : Nat) (out : List Tk), (∀ t ∈ out, 1 ≤ t.kind) → ∀ t ∈ (lexGo L f i out).1, 1 ≤ t.kind
  | 0, i, out, ho => by simp [lexGo]
  | f + 1, i, out, ho => by
    simp only [lexGo]
    split
    · exact ho
    · split
      · simp
      · cases ht : tokenAt L (pend blankB L i) with
        | error e => simp
        | ok x =>
          obtain ⟨k, t, n, e⟩ := x
          dsimp only
          refine lexGo_kind L f e _ (fun t' h => ?_)
          rcases List.mem_append.1 h with h | h
          · exact ho _ h
          · rw [List.mem_singleton.1 h]
            exact tokenAt_kind ht
theorem lex_kind (L : List UInt8) : ∀ t ∈ (lex L).1, 1 ≤ t.kind := lexGo_kind L _ _ _ (by simp)
def eventT (s : ByteArray) : Bool := match lex s.data.toList with
  | ([t], e, _) => decide (e = 0) && decide (t.kind < 3) && decide (t.text = s.data.toList)
  | _ => false
theorem text_eq (t : List UInt8) (s : ByteArray) : ((⟨t.toArray⟩ : ByteArray).toList == s.toList) = decide (t = s.data.toList) := by
  rw [ByteArray.toList_eq, ByteArray.toList_eq]
  by_cases h : t = s.data.toList
  · rw [decide_eq_true h]; simp [h]
  · rw [decide_eq_false h]; simp [h]
theorem Event_ev (s : ByteArray) (hs : s.size ≤ 1000000) : Ev (fun k => tok_Event.f k s) (eventT s) := by
  unfold tok_Event.f eventT
  have hk := lex_kind s.data.toList
  refine Ev.bind (Lex_ev s (by omega)) ?_
  generalize lex s.data.toList = x at *
  obtain ⟨ts, e, p⟩ := x
  dsimp only at hk ⊢
  by_cases he : e = 0
  · refine Ev.pos he ?_
    rcases ts with _ | ⟨t, _ | ⟨t2, ts⟩⟩
    · exact Ev.neg (by simp) (Ev.some rfl)
    · have h1 := hk t (by simp)
      refine Ev.pos (by simp) (Ev.pos (by simp) ?_)
      rw [show rd_T32 (List.map Tk.s32 [t]) 0 = t.s32 from rfl]
      have hx := text_eq t.text s
      by_cases hk1 : t.kind = 1
      · refine Ev.pos hk1 (Ev.some ?_)
        dsimp only
        rw [decide_eq_true he, decide_eq_true (by omega)]
        exact hx
      · refine Ev.neg hk1 ?_
        by_cases hk2 : t.kind = 2
        · refine Ev.pos hk2 (Ev.some ?_)
          dsimp only
          rw [decide_eq_true he, decide_eq_true (by omega)]
          exact hx
        · refine Ev.neg hk2 (Ev.some ?_)
          dsimp only
          rw [decide_eq_false (show ¬ t.kind < 3 by omega)]
          simp
    · exact Ev.neg (by simp; omega) (Ev.some rfl)
  · refine Ev.neg he (Ev.some ?_)
    rcases ts with _ | ⟨t, _ | ⟨t2, ts⟩⟩
    · rfl
    · dsimp only; rw [decide_eq_false he]; rfl
    · rfl
theorem rEvent_ev (s : ByteArray) (hs : s.size ≤ 1000000) : Ev (fun k => whirligigref02_Event.f k s) (eventT s) := by
  unfold whirligigref02_Event.f eventT
  refine Ev.bind (rLex_ev s (by omega)) ?_
  generalize lex s.data.toList = x at *
  obtain ⟨ts, e, p⟩ := x
  dsimp only
  by_cases he : e = 0
  · refine Ev.pos he ?_
    rcases ts with _ | ⟨t, _ | ⟨t2, ts⟩⟩
    · exact Ev.neg (by simp) (Ev.some rfl)
    · refine Ev.pos (by simp) (Ev.pos (by simp) ?_)
      rw [show rd_T31 (List.map Tk.s31 [t]) 0 = t.s31 from rfl]
      have hx := text_eq t.text s
      by_cases hk1 : t.kind < 3
      · refine Ev.pos hk1 (Ev.some ?_)
        dsimp only
        rw [decide_eq_true he, decide_eq_true hk1]
        exact hx
      · refine Ev.neg hk1 (Ev.some ?_)
        dsimp only
        rw [decide_eq_false hk1]
        simp
    · exact Ev.neg (by simp; omega) (Ev.some rfl)
  · refine Ev.neg he (Ev.some ?_)
    rcases ts with _ | ⟨t, _ | ⟨t2, ts⟩⟩
    · rfl
    · dsimp only; rw [decide_eq_false he]; rfl
    · rfl
def i47 (x : S45) : S47 := ⟨x.f0, x.f1, x.f2, x.f3⟩
def b65 (b : S43) : S65 := ⟨b.f0, b.f1, b.f2, b.f3.map i47⟩
theorem i47_inj {x y : S45} (h : i47 x = i47 y) : x = y := by
  cases x; cases y
  simp only [i47, S47.mk.injEq] at h
  obtain ⟨rfl, rfl, rfl, rfl⟩ := h
  rfl
def evOk (s : ByteArray) : Bool := eventT s && !decide (s.data.toList ∈ meanWords)
def rightI (x : S45) : Bool :=
  if x.f1 = 1 then evOk x.f2 && (x.f3 == 0) else if x.f1 = 2 then decide (x.f2.data.toList = []) && (decide (1 ≤ x.f3) && decide (x.f3 ≤ 1048576)) else false
theorem rightI_kind {x : S45} (h : rightI x = true) : x.f1 ≠ 0 := by
  intro h0
  unfold rightI at h
  rw [h0, if_neg (by decide), if_neg (by decide)] at h
  cases h
def rising (len : Int) : Int → List S45 → Bool
  | _, [] => true
  | last, x :: xs => rightI x && (decide (last < x.f0) && (decide (x.f0 < len) && rising len x.f0 xs))
theorem rising_cons {len last : Int} {x : S45} {xs : List S45} : rising len last (x :: xs) = true ↔ rightI x = true ∧ last < x.f0 ∧ x.f0 < len ∧ rising len x.f0 xs = true := by
  simp [rising, Bool.and_eq_true]
theorem rising_len {len : Int} : ∀ {xs : List S45} {last : Int}, rising len last xs = true → last < len → (xs.length : Int) ≤ len - last - 1
  | [], last, _, h => by simp; omega
  | x :: xs, last, h, h0 => by
    obtain ⟨_, h1, h2, h3⟩ := rising_cons.1 h
    have := rising_len h3 h2
    simp only [List.length_cons]
    omega
theorem rising_mem {len : Int} : ∀ {xs : List S45} {last : Int}, rising len last xs = true → ∀ x ∈ xs, rightI x = true ∧ last < x.f0 ∧ x.f0 < len
  | [], _, _, x, hx => by cases hx
  | y :: xs, last, h, x, hx => by
    obtain ⟨h0, h1, h2, h3⟩ := rising_cons.1 h
    rcases List.mem_cons.1 hx with rfl | hx
    · exact ⟨h0, h1, h2⟩
    · obtain ⟨a, b, c⟩ := rising_mem h3 x hx
      exact ⟨a, by omega, c⟩
def gen : Nat → Nat → List S45 → List S47
  | _, 0, _ => []
  | m, n + 1, [] => z47 :: gen (m + 1) n []
  | m, n + 1, x :: xs => if x.f0 = (m : Int) then i47 x :: gen (m + 1) n xs else z47 :: gen (m + 1) n (x :: xs)
theorem gen_length : ∀ (n m : Nat) (xs : List S45), (gen m n xs).length = n
  | 0, _, _ => by simp [gen]
  | n + 1, m, [] => by simp [gen, gen_length n]
  | n + 1, m, x :: xs => by
    unfold gen
    split
    · simp [gen_length n]
    · simp [gen_length n]
theorem gen_take : ∀ (a n m : Nat) (xs : List S45), a ≤ n → (gen m n xs).take a = gen m a xs
  | 0, n, m, xs, _ => by simp [gen]
  | a + 1, 0, m, xs, h => by omega
  | a + 1, n + 1, m, [], h => by
    simp only [gen, List.take_succ_cons]
    rw [gen_take a n (m + 1) [] (by omega)]
  | a + 1, n + 1, m, x :: xs, h => by
    simp only [gen]
    split
    · rw [List.take_succ_cons, gen_take a n (m + 1) xs (by omega)]
    · rw [List.take_succ_cons, gen_take a n (m + 1) (x :: xs) (by omega)]
def ahead (a : Int) (xs : List S45) : List S45 := xs.filter fun x => decide (x.f0 < a)
theorem ahead_none {len : Int} {a : Int} {xs : List S45} {last : Int} (h : rising len last xs = true) (ha : a ≤ last + 1) : ahead a xs = [] := by
  unfold ahead
  rw [List.filter_eq_nil_iff]
  intro x hx
  have := rising_mem h x hx
  simp
  omega
theorem kind_ne {x : S45} (h : rightI x = true) : i47 x ≠ z47 := fun e => rightI_kind h (by
  have := congrArg S47.f1 e
  simpa [i47, z47] using this)
theorem gen_ahead {len len' : Int} : ∀ (a m : Nat) (xs ys : List S45) (l1 l2 : Int), rising len l1 xs = true → rising len' l2 ys = true → (m : Int) ≤ l1 + 1 → (m : Int) ≤ l2 + 1 →
    (gen m a xs = gen m a ys ↔ ahead (m + a : Nat) xs = ahead (m + a : Nat) ys)
  | 0, m, xs, ys, l1, l2, hx, hy, h1, h2 => by
    simp only [gen, Nat.add_zero]
    rw [ahead_none hx h1, ahead_none hy h2]
    simp
  | a + 1, m, xs, ys, l1, l2, hx, hy, h1, h2 => by
    have key : ∀ (len : Int) (zs : List S45) (l : Int), rising len l zs = true → (m : Int) ≤ l + 1 → (∃ z zs', zs = z :: zs' ∧ z.f0 = (m : Int) ∧ rightI z = true ∧ rising len (m : Int) zs' = true ∧ gen m (a + 1) zs = i47 z :: gen (m + 1) a zs' ∧ ahead (m + (a + 1) : Nat) zs = z :: ahead (m + 1 + a : Nat) zs') ∨
        (∃ l', rising len l' zs = true ∧ ((m + 1 : Nat) : Int) ≤ l' + 1 ∧ gen m (a + 1) zs = z47 :: gen (m + 1) a zs ∧ ahead (m + (a + 1) : Nat) zs = ahead (m + 1 + a : Nat) zs ∧ (∀ z ∈ zs, (m : Int) < z.f0)) := by
      intro len zs l hz hl
      have hma : m + (a + 1) = m + 1 + a := by omega
      cases zs with
      | nil => exact Or.inr ⟨(m : Int), rfl, by omega, rfl, rfl, by simp⟩
      | cons z zs =>
        obtain ⟨r0, r1, r2, r3⟩ := rising_cons.1 hz
        by_cases he : z.f0 = (m : Int)
        · refine Or.inl ⟨z, zs, rfl, he, r0, by rw [← he]; exact r3, by simp only [gen]; rw [if_pos he], ?_⟩
          rw [hma]
          unfold ahead
          rw [List.filter_cons_of_pos (by simp; omega)]
        · refine Or.inr ⟨(m : Int), ?_, by omega, by simp only [gen]; rw [if_neg he], by rw [hma], fun y hy => ?_⟩
          · exact rising_cons.2 ⟨r0, by omega, r2, r3⟩
          · rcases List.mem_cons.1 hy with rfl | hy
            · omega
            · have := rising_mem r3 y hy
              omega
    rcases key len xs l1 hx h1 with ⟨x, xs', rfl, hx0, hxr, hx1, hx2, hx3⟩ | ⟨l1', hx1, hx1', hx2, hx3, hx4⟩
    · rcases key len' ys l2 hy h2 with ⟨y, ys', rfl, hy0, hyr, hy1, hy2, hy3⟩ | ⟨l2', hy1, hy1', hy2, hy3, hy4⟩
      · rw [hx2, hy2, hx3, hy3]
        have ih := gen_ahead a (m + 1) xs' ys' (m : Int) (m : Int) hx1 hy1 (by omega) (by omega)
        constructor
        · intro h
          obtain ⟨e1, e2⟩ := List.cons.inj h
          rw [i47_inj e1, ih.1 e2]
        · intro h
          obtain ⟨e1, e2⟩ := List.cons.inj h
          rw [e1, ih.2 e2]
      · rw [hx2, hy2, hx3, hy3]
        constructor
        · intro h
          exact absurd (List.cons.inj h).1 (kind_ne hxr)
        · intro h
          have hm : x ∈ ahead ((m + 1 + a : Nat) : Int) ys := by rw [← h]; exact List.mem_cons_self
          have := hy4 x ((List.mem_filter.1 hm).1)
          omega
    · rcases key len' ys l2 hy h2 with ⟨y, ys', rfl, hy0, hyr, hy1, hy2, hy3⟩ | ⟨l2', hy1, hy1', hy2, hy3, hy4⟩
      · rw [hx2, hy2, hx3, hy3]
        constructor
        · intro h
          exact absurd (List.cons.inj h).1.symm (kind_ne hyr)
        · intro h
          have hm : y ∈ ahead ((m + 1 + a : Nat) : Int) xs := by rw [h]; exact List.mem_cons_self
          have := hx4 y ((List.mem_filter.1 hm).1)
          omega
      · rw [hx2, hy2, hx3, hy3]
        have ih := gen_ahead a (m + 1) xs ys l1' l2' hx1 hy1 hx1' hy1'
        constructor
        · intro h
          exact ih.1 (List.cons.inj h).2
        · intro h
          rw [ih.2 h]
theorem gen_at {len : Int} : ∀ (n m : Nat) (xs : List S45) (last : Int), rising len last xs = true → (m : Int) ≤ last + 1 → ∀ j, j < n →
    (gen m n xs)[j]? = some (match xs.find? (fun x => x.f0 == ((m + j : Nat) : Int)) with | some x => i47 x | none => z47)
  | 0, _, _, _, _, _, j, hj => by omega
  | n + 1, m, [], last, h, hl, j, hj => by
    cases j with
    | zero => simp [gen]
    | succ j =>
      have := gen_at (len := len) n (m + 1) [] (m : Int) rfl (by omega) j (by omega)
      simpa [gen] using this
  | n + 1, m, x :: xs, last, h, hl, j, hj => by
    obtain ⟨r0, r1, r2, r3⟩ := rising_cons.1 h
    simp only [gen]
    by_cases he : x.f0 = (m : Int)
    · rw [if_pos he]
      cases j with
      | zero => simp [he]
      | succ j =>
        have ih := gen_at n (m + 1) xs x.f0 r3 (by omega) j (by omega)
        rw [List.getElem?_cons_succ, ih, List.find?_cons_of_neg (by simp; omega), show m + 1 + j = m + (j + 1) from by omega]
    · rw [if_neg he]
      cases j with
      | zero =>
        have hno : (x :: xs).find? (fun x => x.f0 == ((m + 0 : Nat) : Int)) = none := by
          rw [List.find?_eq_none]
          intro y hy
          rcases List.mem_cons.1 hy with rfl | hy
          · simpa using he
          · have := rising_mem r3 y hy
            simp
            omega
        rw [hno]; rfl
      | succ j =>
        have ih := gen_at n (m + 1) (x :: xs) (m : Int) (rising_cons.2 ⟨r0, by omega, r2, r3⟩) (by omega) j (by omega)
        rw [List.getElem?_cons_succ, ih, show m + 1 + j = m + (j + 1) from by omega]
end Go.Proofs.YtbngfhlciebeeaaDoor.Sp
end
section
namespace Go.Proofs.YtbngfhlciebeeaaDoor.L
open Go.RowKit Go.Proofs.YtbngfhlciebeeaaDoorW.PrintWords Go.Proofs.YtbngfhlciebeeaaDoorW.PrintLast Go.Proofs.YtbngfhlciebeeaaDoorW.PrintMore
attribute [local go_sem] max2_int min2_int max_two min_two max_three min_three max_four min_four   -- for this text's walks alone
set_option linter.unusedVariables false
set_option linter.unusedSimpArgs false
def act_Event.f (k : Nat) (a0 : ByteArray) : Option (Bool) := (tok_Event.f k a0).bind fun t325 => (if t325 = true then ((tok_Means.f a0).bind fun t326 => (some (!t326))) else (some false))
set_option maxHeartbeats 8000000 in
set_option maxRecDepth 100000 in
theorem act_Event.calls (k : Nat) (a0 : ByteArray) (r : Bool) (w : World) (hL : Laid w) (h : act_Event.f k a0 = some r) :
  Calls Tryd.prog 75 #[.string a0] w fun e w' => e = .returned (.bool r) ∧ Below w.heap.size w w' := by
 have HB := Aside0.mk (Below.refl w.heap.size w)
 have HLD := Aside0.mk hL
 clear hL
 have H : ((tok_Event.f k a0).bind fun t325 => (if t325 = true then ((tok_Means.f a0).bind fun t326 => (some (!t326))) else (some false))) = some r := h
 clear h
 replace H := Option.bind_eq_some_iff.mp H
 obtain ⟨t325, A20, H⟩ := H
 (try dsimp -simprocs only at H)
 have A2 := Aside0.mk A20
 clear A20
 by_cases c3 : t325 = true
 ·subst c3
  rw [if_pos rfl] at H
  replace H := Option.bind_eq_some_iff.mp H
  obtain ⟨t326, A40, H⟩ := H
  (try dsimp -simprocs only at H)
  have A4 := Aside0.mk A40
  clear A40
  obtain rfl := Option.some.inj H
  go_enter Tryd.func75, Tryd.ntmps75
  go_wp2_with (first | ((with_reducible refine gc 24 rfl ?_); refine gl (some 4) #[.string a0] Tryd.func24 ?_; (with_reducible refine (tok_Event.calls k a0 true _ ?side1 A2.out).mono ?_); (case side1 => exact Laid.below HLD.out qB); rintro e w5 ⟨rfl, hb⟩; refine ⟨_, rfl, ?_⟩; replace HB := bst hb; (try clear hb)) | (go_at_call 28; (with_reducible refine (tok_Means.calls a0 t326 _ A4.out).mono ?_); rintro e w' ⟨rfl, ⟨nd, rfl⟩⟩))
  go_ret
  exact ⟨qR, qB⟩
 replace c3 := Bool.eq_false_iff.mpr c3
 subst c3
 rw [if_neg (show ¬ (false = true) by decide)] at H
 obtain rfl := Option.some.inj H
 go_enter Tryd.func75, Tryd.ntmps75
 go_wp2_with (first | ((with_reducible refine gc 24 rfl ?_); refine gl (some 4) #[.string a0] Tryd.func24 ?_; (with_reducible refine (tok_Event.calls k a0 false _ ?side1 A2.out).mono ?_); (case side1 => exact Laid.below HLD.out qB); rintro e w6 ⟨rfl, hb⟩; refine ⟨_, rfl, ?_⟩; replace HB := bst hb; (try clear hb)))
 go_ret
 exact ⟨qR, qB⟩
def tree_Input_Right.f (k : Nat) (a0_0 : Int) (a0_1 : Int) (a0_2 : ByteArray) (a0_3 : Int) : Option (Bool) := if a0_1 = 1 then ((act_Event.f k a0_2).bind fun t328 => (if t328 = true then (some (a0_3 == 0)) else (some false))) else (if a0_1 = 2 then (if a0_2.toList = ([] : List UInt8) then (if a0_3 ≥ 1 then (some (decide (a0_3 ≤ 1048576))) else (some false)) else (some false)) else (some false))
set_option maxHeartbeats 8000000 in
set_option maxRecDepth 100000 in
theorem tree_Input_Right.calls (k : Nat) (a0_0 : Int) (a0_1 : Int) (a0_2 : ByteArray) (a0_3 : Int) (r : Bool) (w : World) (hL : Laid w) (h : tree_Input_Right.f k a0_0 a0_1 a0_2 a0_3 = some r) :
  Calls Tryd.prog 33 #[.agg #[.int .i64 a0_0, .int .i64 a0_1, .string a0_2, .int .i64 a0_3]] w fun e w' => e = .returned (.bool r) ∧ Below w.heap.size w w' := by
 have hu45 := Tryd.underlying45
 have HB := Aside0.mk (Below.refl w.heap.size w)
 have HLD := Aside0.mk hL
 clear hL
 have H : (if a0_1 = 1 then ((act_Event.f k a0_2).bind fun t328 => (if t328 = true then (some (a0_3 == 0)) else (some false))) else (if a0_1 = 2 then (if a0_2.toList = ([] : List UInt8) then (if a0_3 ≥ 1 then (some (decide (a0_3 ≤ 1048576))) else (some false)) else (some false)) else (some false))) = some r := h
 clear h
 by_cases c2 : a0_1 = 1
 ·rw [if_pos c2] at H
  have c2b0 := beq_iff_eq.mpr c2
  have c2b1 := bne_eq_false_iff_eq.mpr c2
  clear c2
  replace H := Option.bind_eq_some_iff.mp H
  obtain ⟨t328, A30, H⟩ := H
  (try dsimp -simprocs only at H)
  have A3 := Aside0.mk A30
  clear A30
  by_cases c4 : t328 = true
  ·subst c4
   rw [if_pos rfl] at H
   obtain rfl := Option.some.inj H
   go_enter Tryd.func33, Tryd.ntmps33
   go_wp2_with (first | ((with_reducible refine gd 1 rfl ?_); refine bxx 1 #[.int .i64 a0_0, .int .i64 a0_1, .string a0_2, .int .i64 a0_3] 45 ?_; intro gb327 w5 BK327 GW327 HB; obtain ⟨_, _, _, _, _, _, _, _⟩ := cells4 BK327.out) | ((with_reducible refine gc 75 rfl ?_); refine gl (some 9) #[.string a0_2] Tryd.func75 ?_; (with_reducible refine (act_Event.calls k a0_2 true _ ?side1 A3.out).mono ?_); (case side1 => exact Laid.below HLD.out qB); rintro e w7 ⟨rfl, hb⟩; refine ⟨_, rfl, ?_⟩; replace BK327 := kb gb327 hb; replace HB := bst hb; (try clear hb); obtain ⟨_, _, _, _, _, _, _, _⟩ := cells4 BK327.out))
   go_ret
   exact ⟨qR, qB⟩
  replace c4 := Bool.eq_false_iff.mpr c4
  subst c4
  rw [if_neg (show ¬ (false = true) by decide)] at H
  obtain rfl := Option.some.inj H
  go_enter Tryd.func33, Tryd.ntmps33
  go_wp2_with (first | ((with_reducible refine gd 1 rfl ?_); refine bxx 1 #[.int .i64 a0_0, .int .i64 a0_1, .string a0_2, .int .i64 a0_3] 45 ?_; intro gb327 w9 BK327 GW327 HB; obtain ⟨_, _, _, _, _, _, _, _⟩ := cells4 BK327.out) | ((with_reducible refine gc 75 rfl ?_); refine gl (some 9) #[.string a0_2] Tryd.func75 ?_; (with_reducible refine (act_Event.calls k a0_2 false _ ?side1 A3.out).mono ?_); (case side1 => exact Laid.below HLD.out qB); rintro e w11 ⟨rfl, hb⟩; refine ⟨_, rfl, ?_⟩; replace BK327 := kb gb327 hb; replace HB := bst hb; (try clear hb)))
  go_ret
  exact ⟨qR, qB⟩
 rw [if_neg c2] at H
 have c2b0 := beq_eq_false_iff_ne.mpr c2
 have c2b1 := bne_iff_ne.mpr c2
 by_cases c12 : a0_1 = 2
 ·rw [if_pos c12] at H
  have c12b0 := beq_iff_eq.mpr c12
  have c12b1 := bne_eq_false_iff_eq.mpr c12
  clear c12
  by_cases c13 : a0_2.toList = ([] : List UInt8)
  ·rw [if_pos c13] at H
   have c13b0 := beq_iff_eq.mpr c13
   have c13b1 := bne_eq_false_iff_eq.mpr c13
   clear c13
   replace H := iD H
   rcases H with ⟨c14b0, H⟩ | ⟨c14b0, H⟩
   ·obtain rfl := Option.some.inj H
    go_enter Tryd.func33, Tryd.ntmps33
    go_wp2_with (first | ((with_reducible refine gd 1 rfl ?_); refine bxx 1 #[.int .i64 a0_0, .int .i64 a0_1, .string a0_2, .int .i64 a0_3] 45 ?_; intro gb327 w15 BK327 GW327 HB; obtain ⟨_, _, _, _, _, _, _, _⟩ := cells4 BK327.out))
    go_ret
    exact ⟨qR, qB⟩
   obtain rfl := Option.some.inj H
   go_enter Tryd.func33, Tryd.ntmps33
   go_wp2_with (first | ((with_reducible refine gd 1 rfl ?_); refine bxx 1 #[.int .i64 a0_0, .int .i64 a0_1, .string a0_2, .int .i64 a0_3] 45 ?_; intro gb327 w17 BK327 GW327 HB; obtain ⟨_, _, _, _, _, _, _, _⟩ := cells4 BK327.out))
   go_ret
   exact ⟨qR, qB⟩
  rw [if_neg c13] at H
  have c13b0 := beq_eq_false_iff_ne.mpr c13
  have c13b1 := bne_iff_ne.mpr c13
  obtain rfl := Option.some.inj H
  go_enter Tryd.func33, Tryd.ntmps33
  go_wp2_with (first | ((with_reducible refine gd 1 rfl ?_); refine bxx 1 #[.int .i64 a0_0, .int .i64 a0_1, .string a0_2, .int .i64 a0_3] 45 ?_; intro gb327 w19 BK327 GW327 HB; obtain ⟨_, _, _, _, _, _, _, _⟩ := cells4 BK327.out))
  go_ret
  exact ⟨qR, qB⟩
 rw [if_neg c12] at H
 have c12b0 := beq_eq_false_iff_ne.mpr c12
 have c12b1 := bne_iff_ne.mpr c12
 obtain rfl := Option.some.inj H
 go_enter Tryd.func33, Tryd.ntmps33
 go_wp2_with (first | ((with_reducible refine gd 1 rfl ?_); refine bxx 1 #[.int .i64 a0_0, .int .i64 a0_1, .string a0_2, .int .i64 a0_3] 45 ?_; intro gb327 w21 BK327 GW327 HB; obtain ⟨_, _, _, _, _, _, _, _⟩ := cells4 BK327.out))
 go_ret
 exact ⟨qR, qB⟩
end Go.Proofs.YtbngfhlciebeeaaDoor.L
end
