/- Printed and hand-written steps towards the row (EvalShort), those that it reaches. -/
import Derived.Test.YtbngfhlciebeeaaDoorEvalShortG24
import Derived.Test.YtbngfhlciebeeaaDoorEvalShortG15
namespace Go.Proofs.YtbngfhlciebeeaaDoor.Sp
set_option linter.unusedVariables false
set_option linter.unusedSimpArgs false
open Go.RowKit Go.Proofs.YtbngfhlciebeeaaDoorW.PrintWords Go.Proofs.YtbngfhlciebeeaaDoorW.PrintMore Go.Proofs.YtbngfhlciebeeaaDoor.L
section
variable {l l' : List S32}
theorem up_ev {m p q : Nat} {e E : List S156} (hm : m < 5) (h : Ev (fun k => pa k l' (m + 1) p e) (some (q, E))) {R : Option (Nat × List S156)} (h2 : Ev (fun k => pa k l' (m + 7) q E) R) : Ev (fun k => pa k l' m p e) R := by
  refine Ev.succ ?_
  simp only [pa]
  exact Ev.neg (by omega) (Ev.neg (by omega) (Ev.pos hm (Ev.bind h h2)))
theorem loop_none {m q : Nat} {E : List S156} (h : opIn (levAt m).signs (levAt m).ops (nextT l' q) = none) (hm : m < 5) : Ev (fun k => pa k l' (m + 7) q E) (some (q, E)) := by
  refine Ev.succ ?_
  simp only [pa]
  rw [show m + 7 - 7 = m by omega, h]
  exact Ev.neg (by omega) (Ev.neg (by omega) (Ev.neg (by omega) (Ev.some rfl)))
theorem loop_one {m q q2 : Nat} {E E3 : List S156} {o : Int} (h : opIn (levAt m).signs (levAt m).ops (nextT l' q) = some o) (hm : m < 5) (ho : (levAt m).once = false) (h2 : Ev (fun k => pa k l' (m + 1) (q + 1) E) (some (q2, E3))) (h3 : opIn (levAt m).signs (levAt m).ops (nextT l' q2) = none) :
    Ev (fun k => pa k l' (m + 7) q E) (some (q2, E3 ++ [nodeO o ((E.length : Int) - 1) ((E3.length : Int) - 1)])) := by
  refine Ev.succ ?_
  simp only [pa]
  rw [show m + 7 - 7 = m by omega, h]
  refine Ev.neg (by omega) (Ev.neg (by omega) (Ev.neg (by omega) (Ev.bind h2 (Ev.neg (by rw [ho]; decide) (loop_none h3 hm)))))
theorem paren_ev (hl : ∀ i, i < l.length → TokOk (nextT l i)) {E : List S156} (h : Ev (fun k => pa k l 0 0 []) (some (l.length, E))) {p : Nat} (ho : signT (nextT l' p) ⟨#[40]⟩) (hp : p < l'.length) (hm : Moved l l' (p + 1)) (e' : List S156) :
    ∃ E', (e' = [] → E' = E) ∧ ∀ m, m ≤ 6 → (∀ j, m ≤ j → j ≤ 4 → opIn (levAt j).signs (levAt j).ops (nextT l' (l.length + p + 2)) = none) → Ev (fun k => pa k l' m p e') (some (l.length + p + 2, E')) := by
  obtain ⟨r, K2, hr⟩ := pa_total l' _ 0 (p + 1) e' (Nat.lt_succ_self _) (by omega) (by omega)
  obtain ⟨K, hK⟩ := h
  obtain ⟨E', h1, h2⟩ := pa_moved hl hm (max K K2) 0 0 [] l.length E (hK _ (by omega)) (by omega) (by omega) e'
  have hr' := hr (max K K2) (by omega)
  dsimp only at hr'
  rw [show p + 1 = 0 + (p + 1) by omega, h1] at hr'
  have hin : Ev (fun k => pa k l' 0 (p + 1) e') (some (l.length + (p + 1), E')) := ⟨K2, fun k hk => by rw [hr k hk]; exact hr'.symm⟩
  have h6 : Ev (fun k => pa k l' 6 p e') (some (l.length + p + 2, E')) := by
    refine Ev.succ ?_
    simp only [pa]
    rw [ho.1, isT_sign ho, isT_sign ho, isT_sign ho]
    refine Ev.pos trivial (Ev.neg (by decide) (Ev.neg (by decide) (Ev.neg (by decide +kernel) (Ev.neg (by decide +kernel) (Ev.pos (by decide +kernel) (Ev.bind hin ?_))))))
    dsimp only
    have hst := hm.stop
    refine Ev.pos (by rw [isT_sign hst]; decide +kernel) (Ev.some ?_)
    rw [show l.length + (p + 1) + 1 = l.length + p + 2 by omega]
  have h5 : Ev (fun k => pa k l' 5 p e') (some (l.length + p + 2, E')) := by
    refine Ev.succ ?_
    simp only [pa]
    rw [isT_sign ho [⟨#[110, 111, 116]⟩], isT_sign ho [⟨#[45]⟩]]
    exact Ev.neg (by decide) (Ev.pos trivial (Ev.neg (by decide +kernel) (Ev.neg (by decide +kernel) h6)))
  refine ⟨E', h2, fun m hm6 hno => ?_⟩
  have down : ∀ d m, m + d = 5 → (∀ j, m ≤ j → j ≤ 4 → opIn (levAt j).signs (levAt j).ops (nextT l' (l.length + p + 2)) = none) → Ev (fun k => pa k l' m p e') (some (l.length + p + 2, E')) := by
    intro d
    induction d with
    | zero => intro m hmd _; rw [show m = 5 by omega]; exact h5
    | succ d ih =>
      intro m hmd hn
      exact up_ev (by omega) (ih (m + 1) (by omega) (fun j h1 h2 => hn j (by omega) h2)) (loop_none (hn m (by omega) (by omega)) (by omega))
  by_cases h7 : m = 6
  · rw [h7]; exact h6
  · exact down (5 - m) m (by omega) hno
end
def oneT (new : List Tk) (o c : Nat) : List Tk := [⟨5, [40], 0, o⟩] ++ new ++ [⟨5, [41], 0, c⟩]
def twoT (W : List UInt8) (new new2 : List Tk) (o c w o2 c2 : Nat) : List Tk := [⟨5, [40], 0, o⟩] ++ new ++ [⟨5, [41], 0, c⟩, ⟨1, W, 0, w⟩, ⟨5, [40], 0, o2⟩] ++ new2 ++ [⟨5, [41], 0, c2⟩]
theorem alike_len {a b : List Tk} (h : AlikeL a b) : a.length = b.length := by
  induction h with
  | nil => rfl
  | cons _ _ ih => simp [ih]
theorem alike_at {a b : List Tk} (h : AlikeL a b) : ∀ i (hi : i < b.length) (hi' : i < a.length), AlikeK a[i] b[i] := by
  induction h with
  | nil => intro i hi; simp at hi
  | cons h1 _ ih =>
    intro i hi hi'
    cases i with
    | zero => exact h1
    | succ i => exact ih i (by simpa using hi) (by simpa using hi')
theorem nextT_pre (a b : List S32) {i : Nat} (h : a.length ≤ i) : nextT (a ++ b) i = nextT b (i - a.length) := by
  unfold nextT
  rw [List.getD_eq_getElem?_getD, List.getD_eq_getElem?_getD, List.getElem?_append_right h]
theorem nextT_suf (a b : List S32) {i : Nat} (h : i < a.length) : nextT (a ++ b) i = nextT a i := by
  unfold nextT
  rw [List.getD_eq_getElem?_getD, List.getD_eq_getElem?_getD, List.getElem?_append_left h]
theorem moved_of {A new B : List Tk} {ls : List Tk} (ha : AlikeL new ls) (c : Nat) : Moved (ls.map Tk.s32) ((A ++ new ++ (⟨5, [41], 0, c⟩ :: B)).map Tk.s32) A.length := by
  have hlen := alike_len ha
  refine ⟨fun i hi => ?_, ?_⟩
  · rw [List.length_map] at hi
    rw [List.map_append, List.map_append, nextT_suf _ _ (by simp; omega), nextT_pre _ _ (by simp), List.length_map, Nat.add_sub_cancel, nextT_at (l := new.map Tk.s32) (by simp; omega), nextT_at (l := ls.map Tk.s32) (by simp; omega), List.getElem_map, List.getElem_map]
    have h1 := alike_at ha i hi (by omega)
    exact ⟨h1.1, by show (⟨(new[i]).text.toArray⟩ : ByteArray) = ⟨(ls[i]).text.toArray⟩; rw [h1.2.1], h1.2.2⟩
  · rw [List.map_append, nextT_pre _ _ (by simp; omega)]
    have h0 : (ls.map Tk.s32).length + A.length - ((A ++ new).map Tk.s32).length = 0 := by simp; omega
    rw [h0]
    exact ⟨rfl, rfl⟩
theorem opIn_and : opIn (levAt 1).signs (levAt 1).ops ⟨1, ⟨#[97, 110, 100]⟩, 0, 0⟩ = some 14 := by decide +kernel
theorem opIn_or : opIn (levAt 0).signs (levAt 0).ops ⟨1, ⟨#[111, 114]⟩, 0, 0⟩ = some 15 := by decide +kernel
theorem opIn_pos (j : Nat) (k : Int) (t : ByteArray) (n p : Int) : opIn (levAt j).signs (levAt j).ops ⟨k, t, n, p⟩ = opIn (levAt j).signs (levAt j).ops ⟨k, t, n, 0⟩ := opIn_alike (t := ⟨k, t, n, p⟩) (u := ⟨k, t, n, 0⟩) ⟨rfl, rfl, rfl⟩ _ _
theorem and_none : ∀ j, 2 ≤ j → j ≤ 4 → opIn (levAt j).signs (levAt j).ops ⟨1, ⟨#[97, 110, 100]⟩, 0, 0⟩ = none := fun j h1 h2 => by
  rcases (show j = 2 ∨ j = 3 ∨ j = 4 by omega) with rfl | rfl | rfl <;> decide +kernel
theorem or_none : ∀ j, 1 ≤ j → j ≤ 4 → opIn (levAt j).signs (levAt j).ops ⟨1, ⟨#[111, 114]⟩, 0, 0⟩ = none := fun j h1 h2 => by
  rcases (show j = 1 ∨ j = 2 ∨ j = 3 ∨ j = 4 by omega) with rfl | rfl | rfl | rfl <;> decide +kernel
theorem end_none {l : List S32} {q : Nat} (h : l.length ≤ q) (j : Nat) : opIn (levAt j).signs (levAt j).ops (nextT l q) = none := by rw [nextT_end (by omega)]; exact opIn_end j
theorem one_nodes {S : ByteArray} {E : List S156} (hE : Ev (fun k => pa k (toksOf S) 0 0 []) (some ((toksOf S).length, E))) {new : List Tk} {o c : Nat} (ha : AlikeL new (lex S.data.toList).1) :
    Ev (fun k => pa k ((oneT new o c).map Tk.s32) 0 0 []) (some (((oneT new o c).map Tk.s32).length, E)) := by
  have hlen := alike_len ha
  have hm := moved_of (A := [⟨5, [40], 0, o⟩]) (B := []) ha c
  obtain ⟨E', h1, h2⟩ := paren_ev (l' := (oneT new o c).map Tk.s32) (p := 0) (lex_nextT S.data.toList) hE ⟨rfl, rfl⟩ (by unfold oneT; simp) hm []
  have h3 := h2 0 (by omega) (fun j _ _ => end_none (by unfold oneT; simp; omega) j)
  rw [h1 rfl] at h3
  rw [show ((oneT new o c).map Tk.s32).length = (toksOf S).length + 0 + 2 by unfold toksOf oneT; simp; omega]
  exact h3
theorem two_nodes {S T : ByteArray} {E F : List S156} (hE : Ev (fun k => pa k (toksOf S) 0 0 []) (some ((toksOf S).length, E))) (hF : Ev (fun k => pa k (toksOf T) 0 0 []) (some ((toksOf T).length, F))) {new new2 : List Tk} {o c w o2 c2 : Nat} (ha : AlikeL new (lex S.data.toList).1) (ha2 : AlikeL new2 (lex T.data.toList).1)
    {W : List UInt8} {m : Nat} {op : Int} (hm2 : m = 0 ∨ m = 1) (hop : opIn (levAt m).signs (levAt m).ops ⟨1, ⟨W.toArray⟩, 0, 0⟩ = some op) (hno : ∀ j, m + 1 ≤ j → j ≤ 4 → opIn (levAt j).signs (levAt j).ops ⟨1, ⟨W.toArray⟩, 0, 0⟩ = none) :
    ∃ E3, Ev (fun k => pa k ((twoT W new new2 o c w o2 c2).map Tk.s32) (m + 1) ((toksOf S).length + 3) E) (some (((twoT W new new2 o c w o2 c2).map Tk.s32).length, E3)) ∧
      Ev (fun k => pa k ((twoT W new new2 o c w o2 c2).map Tk.s32) 0 0 []) (some (((twoT W new new2 o c w o2 c2).map Tk.s32).length, E3 ++ [nodeO op ((E.length : Int) - 1) ((E3.length : Int) - 1)])) := by
  have hlen := alike_len ha
  have hlen2 := alike_len ha2
  have hlS : (toksOf S).length = new.length := by unfold toksOf; rw [List.length_map, hlen]
  have hlT : (toksOf T).length = new2.length := by unfold toksOf; rw [List.length_map, hlen2]
  have hm := moved_of (A := [⟨5, [40], 0, o⟩]) (B := [⟨1, W, 0, w⟩, ⟨5, [40], 0, o2⟩] ++ new2 ++ [⟨5, [41], 0, c2⟩]) ha c
  have hmB := moved_of (A := [⟨5, [40], 0, o⟩] ++ new ++ [⟨5, [41], 0, c⟩, ⟨1, W, 0, w⟩, ⟨5, [40], 0, o2⟩]) (B := []) ha2 c2
  have heq : ([⟨5, [40], 0, o⟩] ++ new ++ (⟨5, [41], 0, c⟩ :: ([⟨1, W, 0, w⟩, ⟨5, [40], 0, o2⟩] ++ new2 ++ [⟨5, [41], 0, c2⟩])) : List Tk) = twoT W new new2 o c w o2 c2 := by unfold twoT; simp
  rw [heq] at hm
  have hat : ∀ (i : Nat) (t : Tk), (twoT W new new2 o c w o2 c2)[i]? = some t → nextT ((twoT W new new2 o c w o2 c2).map Tk.s32) i = t.s32 := fun i t h => by
    unfold nextT
    rw [List.getD_eq_getElem?_getD, List.getElem?_map, h]; rfl
  have hL : ((twoT W new new2 o c w o2 c2).map Tk.s32).length = (toksOf S).length + (toksOf T).length + 5 := by rw [hlS, hlT]; unfold twoT; simp; omega
  have hA : ([⟨5, [40], 0, o⟩] ++ new ++ [⟨5, [41], 0, c⟩, ⟨1, W, 0, w⟩, ⟨5, [40], 0, o2⟩] : List Tk).length = (toksOf S).length + 3 + 1 := by rw [hlS]; simp
  rw [hA] at hmB
  rw [show ([⟨5, [40], 0, o⟩] ++ new ++ [⟨5, [41], 0, c⟩, ⟨1, W, 0, w⟩, ⟨5, [40], 0, o2⟩] ++ new2 ++ (⟨5, [41], 0, c2⟩ :: []) : List Tk) = twoT W new new2 o c w o2 c2 from rfl] at hmB
  have t0 := hat 0 ⟨5, [40], 0, o⟩ (by unfold twoT; simp)
  have tw := hat ((toksOf S).length + 2) ⟨1, W, 0, w⟩ (by rw [hlS]; unfold twoT; simp [List.getElem?_append])
  have to2 := hat ((toksOf S).length + 3) ⟨5, [40], 0, o2⟩ (by rw [hlS]; unfold twoT; simp [List.getElem?_append])
  generalize (twoT W new new2 o c w o2 c2).map Tk.s32 = l' at *
  obtain ⟨E', h1, h2⟩ := paren_ev (l' := l') (p := 0) (lex_nextT S.data.toList) hE (by rw [t0]; exact ⟨rfl, rfl⟩) (by omega) hm []
  have hw : ∀ j, opIn (levAt j).signs (levAt j).ops (nextT l' ((toksOf S).length + 0 + 2)) = opIn (levAt j).signs (levAt j).ops ⟨1, ⟨W.toArray⟩, 0, 0⟩ := fun j => by
    rw [Nat.add_zero, tw]; exact opIn_pos j _ _ _ _
  have hleft := h2 (m + 1) (by omega) (fun j j1 j2 => by have := hw j; unfold toksOf at this; rw [this]; exact hno j j1 j2)
  rw [h1 rfl] at hleft
  obtain ⟨E3, _, k2⟩ := paren_ev (l' := l') (p := (toksOf S).length + 3) (lex_nextT T.data.toList) hF (by rw [to2]; exact ⟨rfl, rfl⟩) (by omega) hmB E
  have hright := k2 (m + 1) (by omega) (fun j _ _ => end_none (by rw [hL]; unfold toksOf; omega) j)
  have hq : ((lex T.data.toList).1.map Tk.s32).length + ((toksOf S).length + 3) + 2 = l'.length := by rw [hL]; unfold toksOf; omega
  rw [hq] at hright
  refine ⟨E3, hright, ?_⟩
  have hloop := loop_one (m := m) (q := (toksOf S).length + 0 + 2) ((hw m).trans hop) (by omega) (by rcases hm2 with rfl | rfl <;> rfl) (by rw [show (toksOf S).length + 0 + 2 + 1 = (toksOf S).length + 3 by omega]; exact hright) (end_none (Nat.le_refl _) m)
  have hone := up_ev (by omega) hleft hloop
  rcases hm2 with rfl | rfl
  · exact hone
  · exact up_ev (by omega) hone (loop_none (end_none (Nat.le_refl _) 0) (by omega))
end Go.Proofs.YtbngfhlciebeeaaDoor.Sp
