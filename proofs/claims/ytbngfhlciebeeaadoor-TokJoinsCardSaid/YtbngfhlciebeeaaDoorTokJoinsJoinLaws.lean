/- Printed and hand-written steps towards the row (TokJoins), those that it reaches. -/
import Derived.Test.YtbngfhlciebeeaaDoorTokJoinsPureTokPlaces
import Derived.Test.YtbngfhlciebeeaaDoorTokJoinsGJoin
namespace Go.Proofs.YtbngfhlciebeeaaDoor.Sp
set_option linter.unusedVariables false
set_option linter.unusedSimpArgs false
open Go.RowKit Go.Proofs.YtbngfhlciebeeaaDoor.L Go.Proofs.YtbngfhlciebeeaaDoorW.PrintWords
def Stop (r : List UInt8) : Prop := r = [] ∨ ∃ X, r = 32 :: X
theorem Stop.no {p : UInt8 → Bool} {r : List UInt8} (h : Stop r) (hp : p 32 = false) : ∀ c X', r = c :: X' → p c = false := by
  rintro c X' rfl
  rcases h with h | ⟨X, h⟩
  · cases h
  · cases h; exact hp
theorem takeWhile_stop {p : UInt8 → Bool} : ∀ (w X : List UInt8), w.all p = true → (∀ c X', X = c :: X' → p c = false) → (w ++ X).takeWhile p = w
  | [], X, _, h => by
    cases X with
    | nil => rfl
    | cons c X => rw [List.nil_append, List.takeWhile_cons_of_neg (by rw [h c X rfl]; decide)]
  | c :: w, X, hw, h => by
    simp only [List.all_cons, Bool.and_eq_true] at hw
    rw [List.cons_append, List.takeWhile_cons_of_pos hw.1, takeWhile_stop w X hw.2 h]
theorem pend_stopped {p : UInt8 → Bool} {J w X : List UInt8} {i : Nat} (hd : J.drop i = w ++ X) (hw : w.all p = true) (h : ∀ c X', X = c :: X' → p c = false) : pend p J i = i + w.length := by
  unfold pend; rw [hd, takeWhile_stop w X hw h]
theorem drop_more {J w X : List UInt8} {i : Nat} (hd : J.drop i = w ++ X) : J.drop (i + w.length) = X := by
  rw [← List.drop_drop, hd, List.drop_left]
theorem getD_of_drop {J X : List UInt8} {c : UInt8} {i : Nat} (hd : J.drop i = c :: X) : J.getD i 0 = c := by
  have h := congrArg (fun l => l.getD 0 0) hd
  simpa [List.getD_eq_getElem?_getD, List.getElem?_drop] using h
theorem cut_of_drop {J w X : List UInt8} {i : Nat} (hd : J.drop i = w ++ X) : cut J i (i + w.length) = w := by
  unfold cut
  rw [List.drop_take, hd, Nat.add_sub_cancel_left, List.take_left]
theorem len_of_drop {J w X : List UInt8} {i : Nat} (hd : J.drop i = w ++ X) : J.length - i = w.length + X.length := by
  have := congrArg List.length hd
  rwa [List.length_drop, List.length_append] at this
theorem cut_self (L : List UInt8) (e : Nat) : cut L e e = [] := by
  unfold cut
  exact List.drop_eq_nil_of_le (by rw [List.length_take]; omega)
theorem cut_cons {L : List UInt8} {i e : Nat} (hi : i < L.length) (he : i + 1 ≤ e) : cut L i e = L.getD i 0 :: cut L (i + 1) e := by
  rw [← cut_append (show i ≤ i + 1 by omega) he, cut_one hi]; rfl
theorem cut_pend_all (p : UInt8 → Bool) (L : List UInt8) (i : Nat) : (cut L i (pend p L i)).all p = true := by rw [cut_pend]; exact List.all_takeWhile
theorem pend_no {p : UInt8 → Bool} {L r : List UInt8} {i e : Nat} (he : e ≤ L.length) (hr : Stop r) (hp : p 32 = false) : ∀ c X', cut L (pend p L i) e ++ r = c :: X' → p c = false := by
  intro c X' hx
  by_cases hee : pend p L i < e
  · have h5 := pend_not (p := p) (L := L) (i := i) (by omega)
    rw [cut_cons (by omega) hee] at hx
    rw [← (List.cons.inj hx).1]; exact h5
  · have h0 : cut L (pend p L i) e = [] := by
      unfold cut
      exact List.drop_eq_nil_of_le (by rw [List.length_take]; omega)
    rw [h0] at hx
    exact hr.no hp c X' hx
theorem path_loc {L : List UInt8} : ∀ (f e : Nat) (k k' : Int) (e' : Nat), e ≤ L.length → pathGo L f e k = some (k', e') → ∀ (J r : List UInt8) (p : Nat), J.drop p = cut L e e' ++ r → Stop r → ∀ g, J.length - p < g → pathGo J g p k = some (k', p + (e' - e))
  | 0, _, _, _, _, _, h => by simp [pathGo] at h
  | f + 1, e, k, k', e', he, h => by
    intro J r p hd hr g hg
    obtain ⟨g, rfl⟩ : ∃ m, g = m + 1 := ⟨g - 1, by omega⟩
    have hle := pathGo_le L _ _ _ _ _ he h
    unfold pathGo at h
    split at h
    · rename_i hc
      obtain ⟨hc1, hc2, hc3⟩ := hc
      split at h
      · cases h
      · rename_i hw
        have h1 := le_pend innerB L (e + 1)
        have h2 := pend_le (p := innerB) (L := L) (i := e + 1) (by omega)
        have h3 := pathGo_le L _ _ _ _ _ h2 h
        have hne : e + 1 < pend innerB L (e + 1) := by
          have := pend_step (p := innerB) hc1 (small_inner hc3)
          have := le_pend innerB L (e + 1 + 1)
          omega
        have hlen : (cut L (e + 1) (pend innerB L (e + 1))).length = pend innerB L (e + 1) - (e + 1) := cut_length h2
        rw [cut_cons (by omega) (by omega), ← cut_append h1 h3.1] at hd
        have hJ0 : J.getD p 0 = L.getD e 0 := getD_of_drop hd
        have hd1 : J.drop (p + 1) = cut L (e + 1) (pend innerB L (e + 1)) ++ (cut L (pend innerB L (e + 1)) e' ++ r) := by
          rw [← List.drop_drop, hd, List.cons_append, List.drop_succ_cons, List.drop_zero, List.append_assoc]
        have hJ1 : J.getD (p + 1) 0 = L.getD (e + 1) 0 := by
          have hd2 := hd1
          rw [cut_cons hc1 hne] at hd2
          exact getD_of_drop hd2
        have hpend := pend_stopped hd1 (cut_pend_all _ _ _) (pend_no (by omega) hr (by decide))
        have hlJ := len_of_drop hd1
        unfold pathGo
        rw [if_pos ⟨by omega, by rw [hJ0]; exact hc2, by rw [hJ1]; exact hc3⟩, hpend, if_neg (by omega)]
        rw [path_loc f _ 2 k' e' h2 h J r _ (drop_more hd1) hr g (by omega)]
        congr 2
        omega
    · simp only [Option.some.injEq, Prod.mk.injEq] at h
      obtain ⟨rfl, rfl⟩ := h
      rw [cut_self, List.nil_append] at hd
      unfold pathGo
      rw [if_neg, Nat.sub_self, Nat.add_zero]
      rintro ⟨h1, h2, _⟩
      rcases hr with rfl | ⟨X, rfl⟩
      · have := congrArg List.length hd
        rw [List.length_drop] at this
        simp at this
        omega
      · rw [getD_of_drop hd] at h2
        exact absurd h2 (by decide)
theorem sign_loc {g r : List UInt8} (h : g ∈ signList) (hr : Stop r) : signFind (g ++ r) = some g := by
  simp only [signList, List.mem_cons, List.not_mem_nil, or_false] at h
  rcases hr with rfl | ⟨X, rfl⟩
  · rcases h with rfl | rfl | rfl | rfl | rfl | rfl | rfl | rfl | rfl | rfl | rfl | rfl | rfl | rfl | rfl
    all_goals rfl
  · rcases h with rfl | rfl | rfl | rfl | rfl | rfl | rfl | rfl | rfl | rfl | rfl | rfl | rfl | rfl | rfl
    all_goals rfl
theorem tok_loc {L : List UInt8} {i : Nat} (hi : i < L.length) {k : Int} {t : List UInt8} {n : Int} {e : Nat} (h : tokenAt L i = .ok (k, t, n, e)) {J r : List UInt8} {p : Nat} (hd : J.drop p = cut L i e ++ r) (hr : Stop r) :
    tokenAt J p = .ok (k, t, n, p + (e - i)) := by
  have hle := tokenAt_le hi h
  have hd0 := hd
  rw [cut_cons hi hle.1] at hd0
  have hJ0 : J.getD p 0 = L.getD i 0 := getD_of_drop hd0
  have hlen := cut_length (L := L) (i := i) (j := e) hle.2
  have hlJ := len_of_drop hd
  unfold tokenAt at h ⊢
  rw [hJ0]
  split at h
  · rename_i hs
    rw [if_pos hs]
    split at h
    · cases h
    · rename_i hw
      split at h
      · cases h
      · rename_i k' e' hp
        split at h
        · cases h
        · rename_i h32
          simp only [Except.ok.injEq, Prod.mk.injEq] at h
          obtain ⟨rfl, rfl, rfl, rfl⟩ := h
          have h1 := le_pend innerB L i
          have h2 := pend_le (p := innerB) (L := L) (i := i) (by omega)
          have h3 := pathGo_le L _ _ _ _ _ h2 hp
          have hl1 : (cut L i (pend innerB L i)).length = pend innerB L i - i := cut_length h2
          have hd1 := hd
          rw [← cut_append h1 h3.1, List.append_assoc] at hd1
          have hpend := pend_stopped hd1 (cut_pend_all _ _ _) (pend_no h3.2 hr (by decide))
          have hgo := path_loc _ _ _ _ _ h2 hp J r _ (drop_more hd1) hr (J.length + 1) (by omega)
          rw [hpend, if_neg (by omega), hgo]
          dsimp only
          have he : p + (cut L i (pend innerB L i)).length + (e' - pend innerB L i) = p + (cut L i e').length := by omega
          rw [he, if_neg (by omega), cut_of_drop hd, hlen]
  · rename_i hs
    rw [if_neg hs]
    split at h
    · rename_i hdg
      rw [if_pos hdg]
      have h1 := le_pend isDigit L i
      have h2 := pend_le (p := isDigit) (L := L) (i := i) (by omega)
      split at h
      · cases h
      · rename_i h48
        split at h
        · cases h
        · rename_i m hm
          simp only [Except.ok.injEq, Prod.mk.injEq] at h
          obtain ⟨rfl, rfl, rfl, rfl⟩ := h
          have hpend := pend_stopped hd (cut_pend_all _ _ _) (hr.no (by decide))
          rw [hpend, hlen, if_neg (by rw [Nat.add_sub_cancel_left]; exact h48), show p + (pend isDigit L i - i) = p + (cut L i (pend isDigit L i)).length from by omega, cut_of_drop hd, hm]
    · rename_i hdg
      rw [if_neg hdg]
      split at h
      · rename_i hq
        rw [if_pos hq]
        split at h
        · cases h
        · rename_i hE
          split at h
          · cases h
          · rename_i h48
            split at h
            · rename_i hok
              simp only [Except.ok.injEq, Prod.mk.injEq] at h
              obtain ⟨rfl, rfl, rfl, rfl⟩ := h
              have h1 := le_pend noQuoteB L (i + 1)
              have hl1 : (cut L (i + 1) (pend noQuoteB L (i + 1))).length = pend noQuoteB L (i + 1) - (i + 1) := cut_length (by omega)
              have hn := pend_not (p := noQuoteB) (L := L) (i := i + 1) (by omega)
              have hd1 : J.drop (p + 1) = cut L (i + 1) (pend noQuoteB L (i + 1)) ++ (L.getD (pend noQuoteB L (i + 1)) 0 :: r) := by
                rw [← List.drop_drop, hd0, List.cons_append, List.drop_succ_cons, List.drop_zero, ← cut_append h1 (show pend noQuoteB L (i + 1) ≤ pend noQuoteB L (i + 1) + 1 by omega), cut_one (by omega), List.append_assoc]; rfl
              have hpend := pend_stopped hd1 (cut_pend_all _ _ _) (fun c X' hx => by rw [← (List.cons.inj hx).1]; exact hn)
              have hlJ1 := len_of_drop hd1
              rw [List.length_cons] at hlJ1
              rw [hpend, if_neg (by omega), if_neg (by omega), cut_of_drop hd1, if_pos hok]
              congr 4
              omega
            · cases h
      · rename_i hq
        rw [if_neg hq]
        split at h
        · rename_i g hg
          simp only [Except.ok.injEq, Prod.mk.injEq] at h
          obtain ⟨rfl, rfl, rfl, rfl⟩ := h
          have hmem := signFind_mem hg
          have hc : cut L i (i + g.length) = g := by
            unfold cut
            rw [List.drop_take, Nat.add_sub_cancel_left]
            exact (List.prefix_iff_eq_take.1 (List.isPrefixOf_iff_prefix.1 hmem.2)).symm
          rw [hd, hc, sign_loc hmem.1 hr]
          dsimp only
          rw [Nat.add_sub_cancel_left]
        · cases h
def Good (t : Tk) : Prop := ∃ (L : List UInt8) (i e : Nat), L.length ≤ 1000 ∧ i < L.length ∧ tokenAt L i = .ok (t.kind, t.text, t.n, e)
def outB : Bool → List Tk → List UInt8
  | _, [] => []
  | b, t :: ts => (if b = true then [32] else []) ++ (t.raw ++ outB true ts)
theorem outB_stop (ts : List Tk) : Stop (outB true ts) := by
  cases ts with
  | nil => exact Or.inl rfl
  | cons t ts => exact Or.inr ⟨_, rfl⟩
theorem raw_pos (t : Tk) (pos : Nat) : (Tk.raw ⟨t.kind, t.text, t.n, pos⟩) = t.raw := rfl
theorem relex : ∀ (ts out : List Tk) (b : Bool) (J : List UInt8) (p f : Nat), (∀ t ∈ ts, Good t) → J.drop p = outB b ts → out.length + ts.length ≤ 120 → J.length - p < f →
    ∃ ts', lexGo J f p out = (out ++ ts', 0, 0) ∧ ts'.length = ts.length ∧ ∀ (j : Nat) (t t' : Tk), ts[j]? = some t → ts'[j]? = some t' → t'.kind = t.kind ∧ t'.text = t.text ∧ t'.n = t.n
  | [], out, b, J, p, f, _, hd, _, hf => by
    obtain ⟨f, rfl⟩ : ∃ m, f = m + 1 := ⟨f - 1, by omega⟩
    have hl : J.length ≤ p := by
      have := congrArg List.length hd
      rw [List.length_drop] at this
      simp [outB] at this
      omega
    refine ⟨[], ?_, rfl, fun j t t' h => by simp at h⟩
    simp only [lexGo]
    rw [if_pos (by rw [pend_end hl]; exact hl), List.append_nil]
  | t :: ts, out, b, J, p, f, hg, hd, hn, hf => by
    obtain ⟨f, rfl⟩ : ∃ m, f = m + 1 := ⟨f - 1, by omega⟩
    obtain ⟨L, i, e, hL, hi, ht⟩ := hg t (by simp)
    obtain ⟨he, hc⟩ := tokenAt_raw hi ht 0
    rw [raw_pos] at he hc
    have hle := tokenAt_le hi ht
    have hb32 : blankB (L.getD i 0) = false := by
      cases hb : blankB (L.getD i 0) with
      | false => rfl
      | true =>
        have h32 : L.getD i 0 = 32 := by
          unfold blankB at hb
          exact UInt8.toNat_inj.1 (by simpa using hb)
        unfold tokenAt at ht
        rw [h32] at ht
        rw [if_neg (by decide), if_neg (by decide), if_neg (by decide)] at ht
        have hs : signFind (L.drop i) = none := by
          rw [drop_at hi, h32]; rfl
        rw [hs] at ht
        cases ht
    have hraw : t.raw = L.getD i 0 :: cut L (i + 1) e := by rw [← hc, cut_cons hi hle.1]
    have hp : pend blankB J p = p + (if b = true then 1 else 0) ∧ J.drop (p + (if b = true then 1 else 0)) = t.raw ++ outB true ts := by
      cases b with
      | true =>
        have hd1 : J.drop p = [32] ++ (t.raw ++ outB true ts) := hd
        exact ⟨pend_stopped hd1 (by decide) (fun c X' hx => by rw [hraw] at hx; rw [← (List.cons.inj hx).1]; exact hb32), drop_more hd1⟩
      | false =>
        have hd1 : J.drop p = [] ++ (t.raw ++ outB true ts) := hd
        exact ⟨pend_stopped hd1 (by decide) (fun c X' hx => by rw [hraw] at hx; rw [← (List.cons.inj hx).1]; exact hb32), hd⟩
    obtain ⟨hp1, hp2⟩ := hp
    generalize p + (if b = true then 1 else 0) = q at hp1 hp2
    have hpq := le_pend blankB J p
    rw [hp1] at hpq
    have hlq := len_of_drop hp2
    have hrl : 0 < t.raw.length := by rw [hraw]; simp
    have hcd := hp2
    rw [← hc] at hcd
    have htok := tok_loc hi ht hcd (outB_stop ts)
    simp only [List.length_cons] at hn
    obtain ⟨ts', h1, h2, h3⟩ := relex ts (out ++ [⟨t.kind, t.text, t.n, q⟩]) true J (q + (e - i)) f (fun t' h' => hg t' (List.mem_cons_of_mem _ h')) (by
      have := drop_more hp2
      rwa [show q + t.raw.length = q + (e - i) from by omega] at this) (by rw [List.length_append]; simp; omega) (by omega)
    refine ⟨⟨t.kind, t.text, t.n, q⟩ :: ts', ?_, by simp [h2], fun j a a' ha ha' => ?_⟩
    · simp only [lexGo]
      rw [hp1, if_neg (by omega), if_neg (by omega), htok]
      dsimp only
      rw [h1, List.append_assoc]; rfl
    · cases j with
      | zero =>
        simp at ha ha'
        subst ha ha'
        exact ⟨rfl, rfl, rfl⟩
      | succ j => exact h3 j a a' (by simpa using ha) (by simpa using ha')
theorem lexGo_good (L : List UInt8) (hL : L.length ≤ 1000) : ∀ (f i : Nat) (out : List Tk), i ≤ L.length → (∀ t ∈ out, Good t) → ∀ t ∈ (lexGo L f i out).1, Good t
  | 0, i, out, _, ho => by simp [lexGo]
  | f + 1, i, out, hi, ho => by
    have hq := pend_le (p := blankB) (L := L) (i := i) hi
    simp only [lexGo]
    split
    · exact ho
    · split
      · simp
      · cases ht : tokenAt L (pend blankB L i) with
        | error e => simp
        | ok x =>
          obtain ⟨k, t, n, e⟩ := x
          dsimp only
          refine lexGo_good L hL f e _ (tokenAt_le (by omega) ht).2 (fun t' h => ?_)
          rcases List.mem_append.1 h with h | h
          · exact ho _ h
          · rw [List.mem_singleton.1 h]
            exact ⟨L, _, e, hL, by omega, ht⟩
theorem lex_good (L : List UInt8) (hL : L.length ≤ 1000) : ∀ t ∈ (lex L).1, Good t := lexGo_good L hL _ _ _ (by omega) (by simp)
theorem good_raw {t : Tk} (h : Good t) : t.raw.length ≤ 1000 := by
  obtain ⟨L, i, e, hL, hi, ht⟩ := h
  obtain ⟨he, hc⟩ := tokenAt_raw hi ht 0
  rw [raw_pos] at he
  have := tokenAt_le hi ht
  omega
theorem outB_len : ∀ (ts : List Tk) (b : Bool), (∀ t ∈ ts, Good t) → (outB b ts).length ≤ 1001 * ts.length
  | [], _, _ => by simp [outB]
  | t :: ts, b, hg => by
    have h1 := outB_len ts true (fun t' h' => hg t' (List.mem_cons_of_mem _ h'))
    have h2 := good_raw (hg t (by simp))
    simp only [outB, List.length_append, List.length_cons]
    cases b
    all_goals simp
    all_goals omega
theorem outs_outB : ∀ (ts : List Tk) (i : Nat), tok_Join.outs i (ts.map Tk.s32) = outB (decide (0 < i)) ts
  | [], _ => rfl
  | t :: ts, i => by
    simp only [List.map_cons, tok_Join.outs, outB]
    rw [outs_outB ts (i + 1), show decide (0 < i + 1) = true from decide_eq_true (by omega)]
    have hp : tok_Join.part t.s32 = t.raw := rfl
    rw [hp]
    by_cases h : 0 < i
    · rw [if_pos h, decide_eq_true h]; rfl
    · rw [if_neg h, decide_eq_false h]; rfl
end Go.Proofs.YtbngfhlciebeeaaDoor.Sp
