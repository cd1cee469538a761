/- Printed and hand-written steps towards the row (TokJoins), those that it reaches. -/
import Derived.Test.YtbngfhlciebeeaaDoorTokJoinsPureTokLexes
import Derived.Test.YtbngfhlciebeeaaDoorTokJoinsLxf4
import Derived.KernelRfl
namespace Go.Proofs.YtbngfhlciebeeaaDoor.Sp
set_option linter.unusedVariables false
set_option linter.unusedSimpArgs false
open Go.RowKit Go.Proofs.YtbngfhlciebeeaaDoor.L Go.Proofs.YtbngfhlciebeeaaDoorW.PrintWords
def Tk.raw (t : Tk) : List UInt8 := if t.kind = 4 then [39] ++ t.text ++ [39] else t.text
theorem pathGo_kind (L : List UInt8) : ∀ (f e : Nat) (k k' : Int) (e' : Nat), k = 1 ∨ k = 2 → pathGo L f e k = some (k', e') → k' = 1 ∨ k' = 2
  | 0, _, _, _, _, _, h => by simp [pathGo] at h
  | f + 1, e, k, k', e', he, h => by
    unfold pathGo at h
    split at h
    · split at h
      · cases h
      · exact pathGo_kind L f _ 2 k' e' (Or.inr rfl) h
    · simp only [Option.some.injEq, Prod.mk.injEq] at h
      omega
theorem cut_quote {L : List UInt8} {i E : Nat} (h : i < L.length) (hq : (L.getD i 0).toNat = 39) (hE : i + 1 ≤ E) (hE2 : E < L.length) (hr : (L.getD E 0).toNat = 39) : cut L i (E + 1) = [39] ++ cut L (i + 1) E ++ [39] := by
  have h1 : L.getD i 0 = 39 := UInt8.toNat_inj.1 hq
  have h2 : L.getD E 0 = 39 := UInt8.toNat_inj.1 hr
  rw [← cut_append (show i ≤ E by omega) (show E ≤ E + 1 by omega), ← cut_append (show i ≤ i + 1 by omega) hE, cut_one h, cut_one hE2, h1, h2]
theorem tokenAt_raw {L : List UInt8} {i : Nat} (hi : i < L.length) {k : Int} {t : List UInt8} {n : Int} {e : Nat} (h : tokenAt L i = .ok (k, t, n, e)) (pos : Nat) :
    e = i + (Tk.raw ⟨k, t, n, pos⟩).length ∧ cut L i e = Tk.raw ⟨k, t, n, pos⟩ := by
  have hle := tokenAt_le hi h
  suffices hc : cut L i e = Tk.raw ⟨k, t, n, pos⟩ by
    refine ⟨?_, hc⟩
    rw [← hc, cut_length hle.2]; omega
  unfold tokenAt at h
  unfold Tk.raw
  dsimp only
  split at h
  · split at h
    · cases h
    · split at h
      · cases h
      · rename_i k' e' hp
        have hk := pathGo_kind L _ _ _ _ _ (Or.inl rfl) hp
        split at h
        · cases h
        · simp only [Except.ok.injEq, Prod.mk.injEq] at h
          obtain ⟨rfl, rfl, _, rfl⟩ := h
          rw [if_neg (by omega)]
  · split at h
    · split at h
      · cases h
      · split at h
        · cases h
        · simp only [Except.ok.injEq, Prod.mk.injEq] at h
          obtain ⟨rfl, rfl, _, rfl⟩ := h
          rw [if_neg (by decide)]
    · split at h
      · rename_i hq
        split at h
        · cases h
        · rename_i hE
          split at h
          · cases h
          · split at h
            · simp only [Except.ok.injEq, Prod.mk.injEq] at h
              obtain ⟨rfl, rfl, _, rfl⟩ := h
              rw [if_pos rfl]
              have hn := pend_not (p := noQuoteB) (L := L) (i := i + 1) (by omega)
              refine cut_quote hi hq (le_pend _ _ _) (by omega) ?_
              have hn2 : ((L.getD (pend noQuoteB L (i + 1)) 0).toNat != 39) = false := hn
              simpa using hn2
            · cases h
      · split at h
        · rename_i g hg
          have h2 := List.isPrefixOf_iff_prefix.1 (signFind_mem hg).2
          simp only [Except.ok.injEq, Prod.mk.injEq] at h
          obtain ⟨rfl, rfl, _, rfl⟩ := h
          rw [if_neg (by decide)]
          unfold cut
          rw [List.drop_take, Nat.add_sub_cancel_left]
          exact (List.prefix_iff_eq_take.1 h2).symm
        · cases h
end Go.Proofs.YtbngfhlciebeeaaDoor.Sp
