/- Printed and hand-written steps towards the row (TokJoins), those that it reaches. -/
import Derived.Test.YtbngfhlciebeeaaDoorTokJoinsGSign
namespace Go.Proofs.YtbngfhlciebeeaaDoor.Sp
set_option linter.unusedVariables false
set_option linter.unusedSimpArgs false
open Go.RowKit Go.Proofs.YtbngfhlciebeeaaDoor.L
def smallB (c : UInt8) : Bool := decide (97 ≤ c.toNat) && decide (c.toNat ≤ 122)
def innerB (c : UInt8) : Bool := smallB c || isDigit c || c.toNat == 95
def noQuoteB (c : UInt8) : Bool := c.toNat != 39
def blankB (c : UInt8) : Bool := c.toNat == 32
def pend (p : UInt8 → Bool) (L : List UInt8) (i : Nat) : Nat := i + ((L.drop i).takeWhile p).length
def cut (L : List UInt8) (i j : Nat) : List UInt8 := (L.take j).drop i
theorem drop_at {L : List UInt8} {i : Nat} (h : i < L.length) : L.drop i = L.getD i 0 :: L.drop (i + 1) := by
  rw [List.drop_eq_getElem_cons h, List.getD_eq_getElem?_getD, List.getElem?_eq_getElem h]; rfl
theorem pend_step {p : UInt8 → Bool} {L : List UInt8} {i : Nat} (h : i < L.length) (hp : p (L.getD i 0) = true) : pend p L i = pend p L (i + 1) := by
  unfold pend
  rw [drop_at h, List.takeWhile_cons_of_pos hp, List.length_cons]; omega
theorem pend_stop {p : UInt8 → Bool} {L : List UInt8} {i : Nat} (h : i < L.length) (hp : p (L.getD i 0) = false) : pend p L i = i := by
  unfold pend
  rw [drop_at h, List.takeWhile_cons_of_neg (by rw [hp]; decide)]; rfl
theorem pend_end {p : UInt8 → Bool} {L : List UInt8} {i : Nat} (h : L.length ≤ i) : pend p L i = i := by
  unfold pend
  rw [List.drop_eq_nil_of_le h]; rfl
theorem le_pend (p : UInt8 → Bool) (L : List UInt8) (i : Nat) : i ≤ pend p L i := by unfold pend; omega
theorem pend_le {p : UInt8 → Bool} {L : List UInt8} {i : Nat} (h : i ≤ L.length) : pend p L i ≤ L.length := by
  unfold pend
  have := (List.takeWhile_prefix p (l := L.drop i)).length_le
  rw [List.length_drop] at this
  omega
theorem cut_length {L : List UInt8} {i j : Nat} (hj : j ≤ L.length) : (cut L i j).length = j - i := by
  unfold cut; rw [List.length_drop, List.length_take, Nat.min_eq_left hj]
structure Tk where
  kind : Int
  text : List UInt8
  n : Int
  pos : Nat
def pathGo (L : List UInt8) : Nat → Nat → Int → Option (Int × Nat)
  | 0, _, _ => none
  | f + 1, e, k =>
    if e + 1 < L.length ∧ (L.getD e 0).toNat = 46 ∧ smallB (L.getD (e + 1) 0) = true then
      if pend innerB L (e + 1) - (e + 1) > 16 then none else pathGo L f (pend innerB L (e + 1)) 2
    else some (k, e)
def tokenAt (L : List UInt8) (i : Nat) : Except Int (Int × List UInt8 × Int × Nat) :=
  if smallB (L.getD i 0) = true then
    if pend innerB L i - i > 16 then .error 15
    else match pathGo L (L.length + 1) (pend innerB L i) 1 with
      | none => .error 15
      | some (k, e) => if e - i > 32 then .error 15 else .ok (k, cut L i e, 0, e)
  else if isDigit (L.getD i 0) = true then
    if pend isDigit L i - i > 1 ∧ (L.getD i 0).toNat = 48 then .error 11
    else match numFold (cut L i (pend isDigit L i)) 0 with
      | none => .error 21
      | some n => .ok (3, cut L i (pend isDigit L i), n, pend isDigit L i)
  else if (L.getD i 0).toNat = 39 then
    if L.length ≤ pend noQuoteB L (i + 1) then .error 14
    else if pend noQuoteB L (i + 1) - (i + 1) > 48 then .error 15
    else if (cut L (i + 1) (pend noQuoteB L (i + 1))).all val_Plain.ok = true then .ok (4, cut L (i + 1) (pend noQuoteB L (i + 1)), 0, pend noQuoteB L (i + 1) + 1)
    else .error 11
  else match signFind (L.drop i) with
    | some g => .ok (5, g, 0, i + g.length)
    | none => .error 11
def lexGo (L : List UInt8) : Nat → Nat → List Tk → List Tk × Int × Nat
  | 0, _, _ => ([], 99, 0)
  | f + 1, i, out =>
    if L.length ≤ pend blankB L i then (out, 0, 0)
    else if out.length = 120 then ([], 13, pend blankB L i)
    else match tokenAt L (pend blankB L i) with
      | .error e => ([], e, pend blankB L i)
      | .ok (k, t, n, e) => lexGo L f e (out ++ [⟨k, t, n, pend blankB L i⟩])
def lex (L : List UInt8) : List Tk × Int × Nat := lexGo L (L.length + 1) 0 []
theorem pathGo_le (L : List UInt8) : ∀ (f e : Nat) (k k' : Int) (e' : Nat), e ≤ L.length → pathGo L f e k = some (k', e') → e ≤ e' ∧ e' ≤ L.length
  | 0, _, _, _, _, _, h => by simp [pathGo] at h
  | f + 1, e, k, k', e', he, h => by
    unfold pathGo at h
    split at h
    · rename_i hc
      split at h
      · cases h
      · have := pathGo_le L f _ 2 k' e' (pend_le (by omega)) h
        have := le_pend innerB L (e + 1)
        omega
    · simp only [Option.some.injEq, Prod.mk.injEq] at h
      omega
theorem small_inner {c : UInt8} (h : smallB c = true) : innerB c = true := by unfold innerB; rw [h]; rfl
theorem signFind_mem {l g : List UInt8} (h : signFind l = some g) : g ∈ signList ∧ g.isPrefixOf l = true := ⟨List.mem_of_find?_eq_some h, by have := List.find?_some h; simpa using this⟩
theorem sign_pos {g : List UInt8} (h : g ∈ signList) : 0 < g.length ∧ g.length ≤ 2 := by
  revert g; decide
theorem tokenAt_le {L : List UInt8} {i : Nat} (hi : i < L.length) {k : Int} {t : List UInt8} {n : Int} {e : Nat} (h : tokenAt L i = .ok (k, t, n, e)) : i < e ∧ e ≤ L.length := by
  unfold tokenAt at h
  split at h
  · rename_i hs
    split at h
    · cases h
    · split at h
      · cases h
      · rename_i k' e' hp
        split at h
        · cases h
        · have h1 := pathGo_le L _ _ _ _ _ (pend_le (by omega)) hp
          have h2 := pend_step (p := innerB) hi (small_inner hs)
          have h3 := le_pend innerB L (i + 1)
          simp only [Except.ok.injEq, Prod.mk.injEq] at h
          omega
  · split at h
    · rename_i hd
      have h2 := pend_step (p := isDigit) hi hd
      have h3 := le_pend isDigit L (i + 1)
      have h4 := pend_le (p := isDigit) (L := L) (i := i) (by omega)
      split at h
      · cases h
      · split at h
        · cases h
        · simp only [Except.ok.injEq, Prod.mk.injEq] at h
          omega
    · split at h
      · have h3 := le_pend noQuoteB L (i + 1)
        have h4 := pend_le (p := noQuoteB) (L := L) (i := i + 1) (by omega)
        split at h
        · cases h
        · split at h
          · cases h
          · split at h
            · simp only [Except.ok.injEq, Prod.mk.injEq] at h
              omega
            · cases h
      · split at h
        · rename_i g hg
          have h1 := sign_pos (signFind_mem hg).1
          have h2 := (List.isPrefixOf_iff_prefix.1 (signFind_mem hg).2).length_le
          rw [List.length_drop] at h2
          simp only [Except.ok.injEq, Prod.mk.injEq] at h
          omega
        · cases h
end Go.Proofs.YtbngfhlciebeeaaDoor.Sp
