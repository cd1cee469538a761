/- Printed and hand-written steps towards the row (TokIs), those that it reaches. -/
import Derived.Test.YtbngfhlciebeeaaDoorTokIsLx0
import Derived.ChangeArms
import Derived.WideShapes
import Derived.DataElems
import Derived.Lib.LaidTab
namespace Go.Proofs.YtbngfhlciebeeaaDoor.Opn
set_option linter.unusedVariables false
set_option linter.unusedSimpArgs false
open Go.RowKit Go.ChangeShapes Go.WideShapes Go.Proofs.YtbngfhlciebeeaaDoorW.PrintWords
section
variable {H : Type} {enc : TypeId × Value → H} {P : Program} {w : World} {base : Nat} {sp : Nat → Bool} {held : Bool} {α β : Type}
def Opens (enc : TypeId × Value → H) (P : Program) (w : World) (base : Nat) (sp : Nat → Bool) (held : Bool) (T : TypeId) (kd : Kd α) (ok : α → Prop) : Prop :=
  ∀ (n : Nat) (cs : List Value) (y : DataW H × List MemPlace), DataW.trod enc P w base sp held n T cs = some y → ∃ x, kd.K w x cs ∧ ok x
def OpensF (enc : TypeId × Value → H) (P : Program) (w : World) (base : Nat) (sp : Nat → Bool) (held : Bool) (fs : List Field) (off tot : Nat) (kd : Kd α) (ok : α → Prop) : Prop :=
  ∀ (n : Nat) (cs : List Value), cs.length = tot → (∀ f ∈ fs, ∃ y, DataW.trod enc P w base sp held n f.type ((cs.drop f.offset).take (P.cellsOf f.type)) = some y) → ∃ x, kd.K w x (cs.drop off) ∧ ok x
theorem opens_int {T : TypeId} {k : IntKind} (hu : P.underlying T = some (.int k)) : Opens enc P w base sp held T (Kd.int k) (fun n => (Lit.int k n).wf = true) := fun (n : Nat) (cs : List Value) y h => by
  obtain ⟨x, rfl, _, hw⟩ := DataW.trod_int hu h
  exact ⟨x, rfl, hw⟩
theorem opens_string {T : TypeId} (hu : P.underlying T = some .string) : Opens enc P w base sp held T Kd.string (fun s => s.size ≤ maxLen) := fun (n : Nat) (cs : List Value) y h => by
  obtain ⟨x, rfl, _, hw⟩ := DataW.trod_string hu h
  exact ⟨x, rfl, hw⟩
theorem opensF_one {f : Field} {off tot : Nat} {kd : Kd α} {ok : α → Prop} (h : Opens enc P w base sp held f.type kd ok) (ho : f.offset = off) (hs : off + P.cellsOf f.type = tot) : OpensF enc P w base sp held [f] off tot kd ok := fun n cs hl hf => by
  obtain ⟨y, hy⟩ := hf f (by simp)
  rw [ho, List.take_of_length_le (by rw [List.length_drop]; omega)] at hy
  exact h n _ y hy
theorem opensF_cons {f : Field} {fs : List Field} {off tot : Nat} {a : Kd α} {b : Kd β} {ok : α → Prop} {ok2 : β → Prop} (h : Opens enc P w base sp held f.type a ok) (ho : f.offset = off) (hr : OpensF enc P w base sp held fs (off + P.cellsOf f.type) tot b ok2) :
    OpensF enc P w base sp held (f :: fs) off tot (Kd.pair a b) (fun x => ok x.1 ∧ ok2 x.2) := fun n cs hl hf => by
  obtain ⟨y, hy⟩ := hf f (by simp)
  rw [ho] at hy
  obtain ⟨x, hx, hox⟩ := h n _ y hy
  obtain ⟨z, hz, hoz⟩ := hr n cs hl (fun g hg => hf g (List.mem_cons_of_mem _ hg))
  refine ⟨(x, z), ⟨_, _, ?_, hx, hz⟩, hox, hoz⟩
  rw [← List.drop_drop, List.take_append_drop]
theorem opens_struct {T : TypeId} {fs : Array Field} {tot : Nat} {kd : Kd α} {ok : α → Prop} (hu : P.underlying T = some (.struct fs)) (hc : P.cellsOf T = tot) (h : OpensF enc P w base sp held fs.toList 0 tot kd ok) : Opens enc P w base sp held T kd ok := fun n cs y hy => by
  obtain ⟨xs, m, _, _, hl, hxs, hf⟩ := DataW.trod_struct hu hy
  obtain ⟨x, hx, ho⟩ := h m cs (hl.trans hc) (fun f hm => by
    obtain ⟨i, hi⟩ := List.getElem?_of_mem hm
    have h1 := hf i f (by simpa using hi)
    have h2 : i < xs.length := by
      rw [hxs]
      have := (List.getElem?_eq_some_iff.1 hi).1
      simpa using this
    exact ⟨xs[i], h1.trans (List.getElem?_eq_getElem h2)⟩)
  exact ⟨x, by simpa using hx, ho⟩
theorem opens_iso {T : TypeId} {kd : Kd α} {ok : α → Prop} {f : β → α} (g : α → β) (hg : ∀ y, f (g y) = y) (h : Opens enc P w base sp held T kd ok) : Opens enc P w base sp held T (Kd.iso kd f) (fun x => ok (f x)) := fun n cs y hy => by
  obtain ⟨x, hx, ho⟩ := h n cs y hy
  exact ⟨g x, by show kd.K w (f (g x)) cs; rw [hg]; exact hx, by show ok (f (g x)); rw [hg]; exact ho⟩
theorem opens_imp {T : TypeId} {kd : Kd α} {ok ok2 : α → Prop} (hi : ∀ x, ok x → ok2 x) (h : Opens enc P w base sp held T kd ok) : Opens enc P w base sp held T kd ok2 := fun n cs y hy => by
  obtain ⟨x, hx, ho⟩ := h n cs y hy
  exact ⟨x, hx, hi x ho⟩
theorem choose_list {p : Nat → α → Prop} : ∀ (n : Nat), (∀ i, i < n → ∃ x, p i x) → ∃ l : List α, l.length = n ∧ ∀ i x, l[i]? = some x → p i x
  | 0, _ => ⟨[], rfl, by simp⟩
  | n + 1, h => by
    obtain ⟨l, hl, hp⟩ := choose_list n (fun i hi => h i (by omega))
    obtain ⟨x, hx⟩ := h n (by omega)
    refine ⟨l ++ [x], by simp [hl], fun i y hy => ?_⟩
    by_cases hi : i < n
    · rw [List.getElem?_append_left (by omega)] at hy
      exact hp i y hy
    · rw [List.getElem?_append_right (by omega)] at hy
      have h1 : i = n := by
        have := (List.getElem?_eq_some_iff.1 hy).1
        simp at this
        omega
      subst h1
      rw [hl, Nat.sub_self] at hy
      simp at hy
      subst hy
      exact hx
theorem cells?_get {a : Addr} {n : Nat} {cs : List Value} (h : w.cells? base a n = some cs) : cs.length = n ∧ ∀ i u, cs[i]? = some u → w.cell? (a.add i) = some u := by
  unfold World.cells? at h
  split at h
  · have hl := Lib.mapM_length h
    simp at hl
    refine ⟨hl, fun i u hu => ?_⟩
    have hi : i < cs.length := (List.getElem?_eq_some_iff.1 hu).1
    obtain ⟨b, hb, hf⟩ := Lib.mapM_at h i i (by rw [List.getElem?_range (by omega)])
    rw [hu] at hb
    obtain rfl := Option.some.inj hb
    exact hf
  · cases h
theorem opens_slice {T E : TypeId} {q : Nat} {kd : Kd α} {ok : α → Prop} (hu : P.underlying T = some (.slice E)) (hc : P.cellsOf E = kd.sz) (h : Opens enc P w base sp held E kd ok) :
    Opens enc P w base sp held T (Kd.slice q kd) (fun l => l.length ≤ maxLen ∧ ∀ x ∈ l, ok x) := fun n cs y hy => by
  rcases DataW.trod_slice hu hy with ⟨rfl, _⟩ | ⟨a, len, cap, elems, rest, m, _, rfl, _, _, hl, hm, hel, he, _, _⟩
  · exact ⟨[], ⟨none, 0, rfl, Nat.le_refl _, rfl, by simp, fun h => absurd h (by simp)⟩, by simp, by simp⟩
  · obtain ⟨l, hll, hp⟩ := choose_list (p := fun i x => ∃ c, c.length = kd.sz ∧ kd.K w x c ∧ ok x ∧ ∀ j u, c[j]? = some u → w.cell? (a.add (i * kd.sz + j)) = some u) len (fun i hi => by
      have h1 := he i hi
      rw [hc, List.getElem?_eq_getElem (by omega)] at h1
      obtain ⟨c, hc1, hc2⟩ := Option.bind_eq_some_iff.1 h1
      obtain ⟨x, hx, hox⟩ := h m c _ hc2
      obtain ⟨hlen, hget⟩ := cells?_get hc1
      exact ⟨x, c, hlen, hx, hox, fun j u hju => by
        have := hget j u hju
        rwa [Addr.add_add] at this⟩)
    refine ⟨l, ⟨some a, cap, by rw [hll], by omega, rfl, ?_, fun _ => ⟨a, rfl, fun j p hj => ?_⟩⟩, by omega, fun x hx => ?_⟩
    · simp only [maxLen] at hm; omega
    · obtain ⟨c, h1, h2, _, h4⟩ := hp j p hj
      exact ⟨c, h1, h2, h4⟩
    · obtain ⟨i, hi⟩ := List.getElem?_of_mem hx
      obtain ⟨c, _, _, h3, _⟩ := hp i x hi
      exact h3
theorem arg_slice {T : TypeId} {q : Nat} {kd : Kd α} {ok : List α → Prop} {v : Value} {d : DataW H} {ps : List MemPlace} {a : Option Addr} {len cap : Nat} (hv : v = .slice a len cap) (h : Opens enc P w base sp held T (Kd.slice q kd) ok) (ht : DataW.Trod enc P w base sp held T v d ps) :
    ∃ (A : Option Addr) (l : List α) (c : Nat), v = .slice A l.length c ∧ l.length ≤ c ∧ Kd.C kd w A l.length l ∧ ok l := by
  subst hv
  obtain ⟨n, hn⟩ := ht
  obtain ⟨l, ⟨A, c, hcs, hl, hr⟩, hok⟩ := h n _ _ hn
  simp [Value.cells] at hcs
  obtain ⟨rfl, h1, rfl⟩ := hcs
  exact ⟨a, l, cap, by rw [h1], hl, hr, hok⟩
theorem arg_struct {T : TypeId} {kd : Kd α} {ok : α → Prop} {cs : Array Value} {d : DataW H} {ps : List MemPlace} (h : Opens enc P w base sp held T kd ok) (ht : DataW.Trod enc P w base sp held T (.agg cs) d ps) :
    ∃ x, kd.K w x cs.toList ∧ ok x := by
  obtain ⟨n, hn⟩ := ht
  exact h n _ _ hn
end
end Go.Proofs.YtbngfhlciebeeaaDoor.Opn
