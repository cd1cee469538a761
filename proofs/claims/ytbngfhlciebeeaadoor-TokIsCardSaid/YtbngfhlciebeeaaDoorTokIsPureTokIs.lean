/- Printed and hand-written steps towards the row (TokIs), those that it reaches. -/
import Derived.Test.YtbngfhlciebeeaaDoorTokIsPureTokLexes
import Derived.Test.YtbngfhlciebeeaaDoorTokIsLxf5
import Derived.KernelRfl
namespace Go.Proofs.YtbngfhlciebeeaaDoor.Sp
set_option linter.unusedVariables false
set_option linter.unusedSimpArgs false
open Go.RowKit Go.Proofs.YtbngfhlciebeeaaDoor.L Go.Proofs.YtbngfhlciebeeaaDoorW.PrintWords
def anyIs (t : ByteArray) (l : List ByteArray) : Bool := l.any fun s => s.toList == t.toList
theorem rdOf_at {α : Type} {d : α} {l : List α} {j : Nat} (h : j < l.length) : rdOf d l (j : Int) = l[j] := by
  unfold rdOf
  rw [Int.toNat_natCast, List.getD_eq_getElem?_getD, List.getElem?_eq_getElem h]; rfl
theorem is_l (l : List ByteArray) (hl : l.length ≤ 1000000) (a : Int) (b : ByteArray) (c e : Int) (d : Nat) : ∀ j, j ≤ l.length → l.length - j = d →
    Ev (fun k => tok_Token_Is.l0 k l (l.length : Int) (j : Int) a b c e) (anyIs b (l.drop j)) := by
  induction d with
  | zero =>
    intro j hj hd
    refine Ev.succ ?_
    simp only [tok_Token_Is.l0]
    refine Ev.neg (by omega) (Ev.some ?_)
    rw [List.drop_eq_nil_of_le (by omega)]; rfl
  | succ d ih =>
    intro j hj hd
    have hjl : j < l.length := by omega
    refine Ev.succ ?_
    simp only [tok_Token_Is.l0]
    refine Ev.pos (by omega) (Ev.pos (by omega) (Ev.pos (by omega) ?_))
    rw [rdOf_at hjl, List.drop_eq_getElem_cons hjl, wrap_at (by omega) (by omega)]
    unfold anyIs
    rw [List.any_cons]
    by_cases h : b.toList = (l[j]).toList
    · refine Ev.pos h (Ev.some ?_)
      rw [h, beq_self_eq_true, Bool.true_or]
    · refine Ev.neg h ?_
      rw [show ((l[j]).toList == b.toList) = false from beq_eq_false_iff_ne.2 (fun e => h e.symm), Bool.false_or]
      exact ih (j + 1) (by omega) (by omega)
theorem is_ev (l : List ByteArray) (hl : l.length ≤ 1000000) (a : Int) (b : ByteArray) (c e : Int) :
    Ev (fun k => tok_Token_Is.f k a b c e l) ((a == 1 || a == 5) && anyIs b l) := by
  have h0 := is_l l hl a b c e _ 0 (by omega) rfl
  have hj : Ev (fun k => tok_Token_Is.j0 k l false a b c e) (anyIs b l) := by
    refine Ev.succ ?_
    simp only [tok_Token_Is.j0]
    exact Ev.neg (by decide) h0
  unfold tok_Token_Is.f
  by_cases h1 : a = 1
  · refine Ev.pos h1 ?_
    subst h1
    exact hj
  · refine Ev.neg h1 ?_
    rw [show (a == 1) = false from beq_eq_false_iff_ne.2 h1, Bool.false_or]
    by_cases h5 : a = 5
    · subst h5
      exact hj
    · rw [show (a == 5) = false from beq_eq_false_iff_ne.2 h5, show (a != 5) = true from bne_iff_ne.2 h5]
      refine Ev.succ ?_
      simp only [tok_Token_Is.j0]
      exact Ev.pos trivial (Ev.some rfl)
theorem tokIs_l (l : List ByteArray) (hl : l.length ≤ 1000000) (a : Int) (b : ByteArray) (c e : Int) (d : Nat) : ∀ j, j ≤ l.length → l.length - j = d →
    Ev (fun k => whirligiglaw02_TokIs.l0 k l (anyIs b (l.take j)) l (l.length : Int) (j : Int) a b c e) true := by
  induction d with
  | zero =>
    intro j hj hd
    refine Ev.succ ?_
    simp only [whirligiglaw02_TokIs.l0]
    refine Ev.neg (by omega) (Ev.bind (is_ev l hl a b c e) ?_)
    rw [List.take_of_length_le (by omega)]
    cases hb : anyIs b l with
    | true =>
      refine Ev.pos rfl ?_
      by_cases h1 : a = 1
      · refine Ev.pos h1 (Ev.some ?_)
        subst h1; rfl
      · refine Ev.neg h1 (Ev.some ?_)
        rw [show (a == 1) = false from beq_eq_false_iff_ne.2 h1]
        simp
    | false => exact Ev.neg (by decide) (Ev.some (by simp))
  | succ d ih =>
    intro j hj hd
    have hjl : j < l.length := by omega
    have hn := ih (j + 1) (by omega) (by omega)
    have ht : anyIs b (l.take (j + 1)) = (anyIs b (l.take j) || ((l[j]).toList == b.toList)) := by
      unfold anyIs
      rw [List.take_succ_eq_append_getElem hjl, List.any_append]
      simp
    refine Ev.succ ?_
    simp only [whirligiglaw02_TokIs.l0]
    refine Ev.pos (by omega) (Ev.pos (by omega) (Ev.pos (by omega) ?_))
    rw [rdOf_at hjl, wrap_at (by omega) (by omega)]
    rw [ht] at hn
    cases hb : anyIs b (l.take j) with
    | true =>
      rw [hb, Bool.true_or] at hn
      exact Ev.pos rfl hn
    | false =>
      rw [hb, Bool.false_or] at hn
      exact Ev.neg (by decide) hn
theorem TokIs_ev (x : S32) {px : Prop} (_ : px) (l : List ByteArray) {pl : Prop} (_ : pl) : Ev (fun k => whirligiglaw02_TokIs.f k x.f0 x.f1 x.f2 x.f3 l) true := by
  unfold whirligiglaw02_TokIs.f
  refine Ev.bind anchor02_ev (Ev.pos rfl ?_)
  by_cases h : (l.length : Int) > 50
  · exact Ev.pos h (Ev.some rfl)
  · exact Ev.neg h (tokIs_l l (by omega) x.f0 x.f1 x.f2 x.f3 _ 0 (by omega) rfl)
end Go.Proofs.YtbngfhlciebeeaaDoor.Sp
