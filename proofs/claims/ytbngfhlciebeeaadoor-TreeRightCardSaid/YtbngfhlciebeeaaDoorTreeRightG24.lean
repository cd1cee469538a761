/- Printed and hand-written steps towards the row (TreeRight), those that it reaches. -/
import Derived.Test.YtbngfhlciebeeaaDoorTreeRightG23
import Derived.Test.YtbngfhlciebeeaaDoorTreeRightLx0
import Derived.Lib.FrozenHead2
import Derived.Lib.OthersKept
import Derived.Lib.Builder
import Derived.Shelf.Strings.BuilderX
import Derived.WalkKit
import Derived.BigCall
import Derived.Shelf.Strings.BuilderK
import Derived.Test.YtbngfhlciebeeaaDoorProg
import Derived.Test.YtbngfhlciebeeaaDoorTreeRightG7
import Derived.Test.YtbngfhlciebeeaaDoorTreeRightLxf19
import Derived.Test.YtbngfhlciebeeaaDoorTreeRightLxf112
import Derived.Test.YtbngfhlciebeeaaDoorTreeRightLxf5
import Derived.Test.YtbngfhlciebeeaaDoorTreeRightG13
section
namespace Go.Proofs.YtbngfhlciebeeaaDoor.Sp
set_option linter.unusedVariables false
set_option linter.unusedSimpArgs false
open Go.RowKit Go.Proofs.YtbngfhlciebeeaaDoor.L Go.Proofs.YtbngfhlciebeeaaDoorW.PrintWords
def i47 (x : S45) : S47 := ⟨x.f0, x.f1, x.f2, x.f3⟩
def b65 (b : S43) : S65 := ⟨b.f0, b.f1, b.f2, b.f3.map i47⟩
theorem i47_inj {x y : S45} (h : i47 x = i47 y) : x = y := by
  cases x; cases y
  simp only [i47, S47.mk.injEq] at h
  obtain ⟨rfl, rfl, rfl, rfl⟩ := h
  rfl
def evOk (s : ByteArray) : Bool := eventT s && !decide (s.data.toList ∈ meanWords)
def rightI (x : S45) : Bool :=
  if x.f1 = 1 then evOk x.f2 && (x.f3 == 0) else if x.f1 = 2 then decide (x.f2.data.toList = []) && (decide (1 ≤ x.f3) && decide (x.f3 ≤ 1048576)) else false
theorem rightI_kind {x : S45} (h : rightI x = true) : x.f1 ≠ 0 := by
  intro h0
  unfold rightI at h
  rw [h0, if_neg (by decide), if_neg (by decide)] at h
  cases h
def rising (len : Int) : Int → List S45 → Bool
  | _, [] => true
  | last, x :: xs => rightI x && (decide (last < x.f0) && (decide (x.f0 < len) && rising len x.f0 xs))
theorem rising_cons {len last : Int} {x : S45} {xs : List S45} : rising len last (x :: xs) = true ↔ rightI x = true ∧ last < x.f0 ∧ x.f0 < len ∧ rising len x.f0 xs = true := by
  simp [rising, Bool.and_eq_true]
theorem rising_len {len : Int} : ∀ {xs : List S45} {last : Int}, rising len last xs = true → last < len → (xs.length : Int) ≤ len - last - 1
  | [], last, _, h => by simp; omega
  | x :: xs, last, h, h0 => by
    obtain ⟨_, h1, h2, h3⟩ := rising_cons.1 h
    have := rising_len h3 h2
    simp only [List.length_cons]
    omega
theorem rising_mem {len : Int} : ∀ {xs : List S45} {last : Int}, rising len last xs = true → ∀ x ∈ xs, rightI x = true ∧ last < x.f0 ∧ x.f0 < len
  | [], _, _, x, hx => by cases hx
  | y :: xs, last, h, x, hx => by
    obtain ⟨h0, h1, h2, h3⟩ := rising_cons.1 h
    rcases List.mem_cons.1 hx with rfl | hx
    · exact ⟨h0, h1, h2⟩
    · obtain ⟨a, b, c⟩ := rising_mem h3 x hx
      exact ⟨a, by omega, c⟩
def gen : Nat → Nat → List S45 → List S47
  | _, 0, _ => []
  | m, n + 1, [] => z47 :: gen (m + 1) n []
  | m, n + 1, x :: xs => if x.f0 = (m : Int) then i47 x :: gen (m + 1) n xs else z47 :: gen (m + 1) n (x :: xs)
theorem gen_length : ∀ (n m : Nat) (xs : List S45), (gen m n xs).length = n
  | 0, _, _ => by simp [gen]
  | n + 1, m, [] => by simp [gen, gen_length n]
  | n + 1, m, x :: xs => by
    unfold gen
    split
    · simp [gen_length n]
    · simp [gen_length n]
theorem gen_take : ∀ (a n m : Nat) (xs : List S45), a ≤ n → (gen m n xs).take a = gen m a xs
  | 0, n, m, xs, _ => by simp [gen]
  | a + 1, 0, m, xs, h => by omega
  | a + 1, n + 1, m, [], h => by
    simp only [gen, List.take_succ_cons]
    rw [gen_take a n (m + 1) [] (by omega)]
  | a + 1, n + 1, m, x :: xs, h => by
    simp only [gen]
    split
    · rw [List.take_succ_cons, gen_take a n (m + 1) xs (by omega)]
    · rw [List.take_succ_cons, gen_take a n (m + 1) (x :: xs) (by omega)]
def ahead (a : Int) (xs : List S45) : List S45 := xs.filter fun x => decide (x.f0 < a)
theorem ahead_none {len : Int} {a : Int} {xs : List S45} {last : Int} (h : rising len last xs = true) (ha : a ≤ last + 1) : ahead a xs = [] := by
  unfold ahead
  rw [List.filter_eq_nil_iff]
  intro x hx
  have := rising_mem h x hx
  simp
  omega
theorem kind_ne {x : S45} (h : rightI x = true) : i47 x ≠ z47 := fun e => rightI_kind h (by
  have := congrArg S47.f1 e
  simpa [i47, z47] using this)
theorem gen_ahead {len len' : Int} : ∀ (a m : Nat) (xs ys : List S45) (l1 l2 : Int), rising len l1 xs = true → rising len' l2 ys = true → (m : Int) ≤ l1 + 1 → (m : Int) ≤ l2 + 1 →
    (gen m a xs = gen m a ys ↔ ahead (m + a : Nat) xs = ahead (m + a : Nat) ys)
  | 0, m, xs, ys, l1, l2, hx, hy, h1, h2 => by
    simp only [gen, Nat.add_zero]
    rw [ahead_none hx h1, ahead_none hy h2]
    simp
  | a + 1, m, xs, ys, l1, l2, hx, hy, h1, h2 => by
    have key : ∀ (len : Int) (zs : List S45) (l : Int), rising len l zs = true → (m : Int) ≤ l + 1 → (∃ z zs', zs = z :: zs' ∧ z.f0 = (m : Int) ∧ rightI z = true ∧ rising len (m : Int) zs' = true ∧ gen m (a + 1) zs = i47 z :: gen (m + 1) a zs' ∧ ahead (m + (a + 1) : Nat) zs = z :: ahead (m + 1 + a : Nat) zs') ∨
        (∃ l', rising len l' zs = true ∧ ((m + 1 : Nat) : Int) ≤ l' + 1 ∧ gen m (a + 1) zs = z47 :: gen (m + 1) a zs ∧ ahead (m + (a + 1) : Nat) zs = ahead (m + 1 + a : Nat) zs ∧ (∀ z ∈ zs, (m : Int) < z.f0)) := by
      intro len zs l hz hl
      have hma : m + (a + 1) = m + 1 + a := by omega
      cases zs with
      | nil => exact Or.inr ⟨(m : Int), rfl, by omega, rfl, rfl, by simp⟩
      | cons z zs =>
        obtain ⟨r0, r1, r2, r3⟩ := rising_cons.1 hz
        by_cases he : z.f0 = (m : Int)
        · refine Or.inl ⟨z, zs, rfl, he, r0, by rw [← he]; exact r3, by simp only [gen]; rw [if_pos he], ?_⟩
          rw [hma]
          unfold ahead
          rw [List.filter_cons_of_pos (by simp; omega)]
        · refine Or.inr ⟨(m : Int), ?_, by omega, by simp only [gen]; rw [if_neg he], by rw [hma], fun y hy => ?_⟩
          · exact rising_cons.2 ⟨r0, by omega, r2, r3⟩
          · rcases List.mem_cons.1 hy with rfl | hy
            · omega
            · have := rising_mem r3 y hy
              omega
    rcases key len xs l1 hx h1 with ⟨x, xs', rfl, hx0, hxr, hx1, hx2, hx3⟩ | ⟨l1', hx1, hx1', hx2, hx3, hx4⟩
    · rcases key len' ys l2 hy h2 with ⟨y, ys', rfl, hy0, hyr, hy1, hy2, hy3⟩ | ⟨l2', hy1, hy1', hy2, hy3, hy4⟩
      · rw [hx2, hy2, hx3, hy3]
        have ih := gen_ahead a (m + 1) xs' ys' (m : Int) (m : Int) hx1 hy1 (by omega) (by omega)
        constructor
        · intro h
          obtain ⟨e1, e2⟩ := List.cons.inj h
          rw [i47_inj e1, ih.1 e2]
        · intro h
          obtain ⟨e1, e2⟩ := List.cons.inj h
          rw [e1, ih.2 e2]
      · rw [hx2, hy2, hx3, hy3]
        constructor
        · intro h
          exact absurd (List.cons.inj h).1 (kind_ne hxr)
        · intro h
          have hm : x ∈ ahead ((m + 1 + a : Nat) : Int) ys := by rw [← h]; exact List.mem_cons_self
          have := hy4 x ((List.mem_filter.1 hm).1)
          omega
    · rcases key len' ys l2 hy h2 with ⟨y, ys', rfl, hy0, hyr, hy1, hy2, hy3⟩ | ⟨l2', hy1, hy1', hy2, hy3, hy4⟩
      · rw [hx2, hy2, hx3, hy3]
        constructor
        · intro h
          exact absurd (List.cons.inj h).1.symm (kind_ne hyr)
        · intro h
          have hm : y ∈ ahead ((m + 1 + a : Nat) : Int) xs := by rw [h]; exact List.mem_cons_self
          have := hx4 y ((List.mem_filter.1 hm).1)
          omega
      · rw [hx2, hy2, hx3, hy3]
        have ih := gen_ahead a (m + 1) xs ys l1' l2' hx1 hy1 hx1' hy1'
        constructor
        · intro h
          exact ih.1 (List.cons.inj h).2
        · intro h
          rw [ih.2 h]
theorem gen_at {len : Int} : ∀ (n m : Nat) (xs : List S45) (last : Int), rising len last xs = true → (m : Int) ≤ last + 1 → ∀ j, j < n →
    (gen m n xs)[j]? = some (match xs.find? (fun x => x.f0 == ((m + j : Nat) : Int)) with | some x => i47 x | none => z47)
  | 0, _, _, _, _, _, j, hj => by omega
  | n + 1, m, [], last, h, hl, j, hj => by
    cases j with
    | zero => simp [gen]
    | succ j =>
      have := gen_at (len := len) n (m + 1) [] (m : Int) rfl (by omega) j (by omega)
      simpa [gen] using this
  | n + 1, m, x :: xs, last, h, hl, j, hj => by
    obtain ⟨r0, r1, r2, r3⟩ := rising_cons.1 h
    simp only [gen]
    by_cases he : x.f0 = (m : Int)
    · rw [if_pos he]
      cases j with
      | zero => simp [he]
      | succ j =>
        have ih := gen_at n (m + 1) xs x.f0 r3 (by omega) j (by omega)
        rw [List.getElem?_cons_succ, ih, List.find?_cons_of_neg (by simp; omega), show m + 1 + j = m + (j + 1) from by omega]
    · rw [if_neg he]
      cases j with
      | zero =>
        have hno : (x :: xs).find? (fun x => x.f0 == ((m + 0 : Nat) : Int)) = none := by
          rw [List.find?_eq_none]
          intro y hy
          rcases List.mem_cons.1 hy with rfl | hy
          · simpa using he
          · have := rising_mem r3 y hy
            simp
            omega
        rw [hno]; rfl
      | succ j =>
        have ih := gen_at n (m + 1) (x :: xs) (m : Int) (rising_cons.2 ⟨r0, by omega, r2, r3⟩) (by omega) j (by omega)
        rw [List.getElem?_cons_succ, ih, show m + 1 + j = m + (j + 1) from by omega]
end Go.Proofs.YtbngfhlciebeeaaDoor.Sp
end
section
namespace Go.Proofs.YtbngfhlciebeeaaDoor.L
set_option linter.unusedVariables false
set_option linter.unusedSimpArgs false
open Go.RowKit Go.Proofs.YtbngfhlciebeeaaDoorW.PrintWords Go.Proofs.YtbngfhlciebeeaaDoorW.PrintLast Go.Proofs.YtbngfhlciebeeaaDoorW.PrintMore
def tok_Join.part (t : S32) : List UInt8 := if t.f0 = 4 then [39] ++ t.f1.data.toList ++ [39] else t.f1.data.toList
def tok_Join.outs : Nat → List S32 → List UInt8
  | _, [] => []
  | i, t :: ts => (if 0 < i then [32] else []) ++ (tok_Join.part t ++ tok_Join.outs (i + 1) ts)
def tok_Join.f (l : List S32) : Option ByteArray := if (tok_Join.outs 0 l).length ≤ 140737488355328 then some ⟨(tok_Join.outs 0 l).toArray⟩ else none
end Go.Proofs.YtbngfhlciebeeaaDoor.L
end
section
namespace Go.Proofs.YtbngfhlciebeeaaDoor.L
open Go.RowKit Go.Proofs.YtbngfhlciebeeaaDoorW.PrintWords Go.Proofs.YtbngfhlciebeeaaDoorW.PrintLast Go.Proofs.YtbngfhlciebeeaaDoorW.PrintMore
attribute [local go_sem] max2_int min2_int max_two min_two max_three min_three max_four min_four   -- for this text's walks alone
set_option linter.unusedVariables false
set_option linter.unusedSimpArgs false
def whirligigref02_Join.l0 : Nat → List (S31) → ByteArray → Int → Option (ByteArray)
 | 0, _, _, _ => none
 | k + 1, x0, x3, x4 => if x4 < (x0.length : Int) then (if x4 > 0 then (if x3.size + 1 ≤ 9223372036854775807 then (if 0 ≤ x4 then (if ((rd_T31 x0 x4).f0) = 4 then (if (x3.size + 1) + 1 ≤ 9223372036854775807 then (if (x3.size + 1 + 1) + ((rd_T31 x0 x4).f1).size ≤ 9223372036854775807 then (if (x3.size + 1 + 1 + ((rd_T31 x0 x4).f1).size) + 1 ≤ 9223372036854775807 then (whirligigref02_Join.l0 k x0 ((((x3 ++ (⟨#[32]⟩ : ByteArray)) ++ (⟨#[39]⟩ : ByteArray)) ++ ((rd_T31 x0 x4).f1)) ++ (⟨#[39]⟩ : ByteArray)) (wrap64 (x4 + 1))) else (none)) else (none)) else (none)) else (if (x3.size + 1) + ((rd_T31 x0 x4).f1).size ≤ 9223372036854775807 then (whirligigref02_Join.l0 k x0 ((x3 ++ (⟨#[32]⟩ : ByteArray)) ++ ((rd_T31 x0 x4).f1)) (wrap64 (x4 + 1))) else (none))) else (none)) else (none)) else (if 0 ≤ x4 then (if ((rd_T31 x0 x4).f0) = 4 then (if x3.size + 1 ≤ 9223372036854775807 then (if (x3.size + 1) + ((rd_T31 x0 x4).f1).size ≤ 9223372036854775807 then (if (x3.size + 1 + ((rd_T31 x0 x4).f1).size) + 1 ≤ 9223372036854775807 then (whirligigref02_Join.l0 k x0 (((x3 ++ (⟨#[39]⟩ : ByteArray)) ++ ((rd_T31 x0 x4).f1)) ++ (⟨#[39]⟩ : ByteArray)) (wrap64 (x4 + 1))) else (none)) else (none)) else (none)) else (if x3.size + ((rd_T31 x0 x4).f1).size ≤ 9223372036854775807 then (whirligigref02_Join.l0 k x0 (x3 ++ ((rd_T31 x0 x4).f1)) (wrap64 (x4 + 1))) else (none))) else (none))) else (some x3)
def whirligigref02_Join.f (k : Nat) (l0 : List (S31)) : Option (ByteArray) := whirligigref02_Join.l0 k l0 (⟨#[]⟩ : ByteArray) 0
theorem whirligigref02_Join.mono_l : ∀ k, (∀ y0 y1 y2, LeO (whirligigref02_Join.l0 k y0 y1 y2) (whirligigref02_Join.l0 (k + 1) y0 y1 y2))
 | 0 => fun _ _ _ r h => by simp [whirligigref02_Join.l0] at h
 | k + 1 => by
  have ih0 := whirligigref02_Join.mono_l k
  ·intro y0 y1 y2
   unfold whirligigref02_Join.l0
   repeat' first
   | (with_reducible exact ih0 _ _ _)
   | (with_reducible exact LeO.refl _)
   | (with_reducible exact LeO.none _)
   | (with_reducible refine LeO.ite ?_ ?_)
   | (with_reducible refine LeO.bind ?_ (fun _ => ?_))
   | exact ih0 _ _ _
   | exact LeO.none _
   | refine LeO.ite ?_ ?_
   | refine LeO.bind ?_ (fun _ => ?_)
theorem whirligigref02_Join.mono : ∀ a0 k, LeO (whirligigref02_Join.f k a0) (whirligigref02_Join.f (k + 1) a0) := by
 intro a0 k
 have ih0 := whirligigref02_Join.mono_l k
 unfold whirligigref02_Join.f
 repeat' first
   | (with_reducible exact ih0 _ _ _)
   | (with_reducible exact LeO.refl _)
   | (with_reducible exact LeO.none _)
   | (with_reducible refine LeO.ite ?_ ?_)
   | (with_reducible refine LeO.bind ?_ (fun _ => ?_))
   | exact ih0 _ _ _
   | exact LeO.none _
   | refine LeO.ite ?_ ?_
   | refine LeO.bind ?_ (fun _ => ?_)
mutual
def whirligiglaw02_TokJoins.j0 : Nat → List (S32) → List (S32) → Bool → Option (Bool)
 | 0, _, _, _ => none
 | k + 1, x3, x10, x55 => if x55 = true then (some false) else (whirligiglaw02_TokJoins.l0 k x3 x10 (x3.length : Int) 0)
def whirligiglaw02_TokJoins.l0 : Nat → List (S32) → List (S32) → Int → Int → Option (Bool)
 | 0, _, _, _, _ => none
 | k + 1, x3, x10, x57, x58 => if x58 < x57 then (if 0 ≤ x58 then (if x58 < (x10.length : Int) then (if x58 < (x3.length : Int) then (if ((rd_T32 x10 x58).f0) = ((rd_T32 x3 x58).f0) then (if ((rd_T32 x10 x58).f1).toList = ((rd_T32 x3 x58).f1).toList then (if ((rd_T32 x10 x58).f2) = ((rd_T32 x3 x58).f2) then (if ((rd_T32 x10 x58).f3) < 0 then (some false) else (whirligiglaw02_TokJoins.l0 k x3 x10 x57 (wrap64 (x58 + 1)))) else (some false)) else (some false)) else (some false)) else (none)) else (none)) else (none)) else (some true)
end
def whirligiglaw02_TokJoins.f (k : Nat) (a0 : ByteArray) : Option (Bool) := (whirligiglaw02_anchor.f k).bind fun t300 => (if t300 = true then (if (a0.size : Int) > 1000 then (some true) else ((tok_Lex.f k a0).bind fun bt301 => (if bt301.2.1 = 0 then ((whirligigref02_Lex.f k a0).bind fun bt306 => ((tok_Join.f bt301.1).bind fun t311 => ((tok_Lex.f k t311).bind fun bt312 => ((whirligigref02_Join.f k bt306.1).bind fun t317 => (if t311.toList = t317.toList then (if bt312.2.1 = 0 then (whirligiglaw02_TokJoins.j0 k bt301.1 bt312.1 ((bt312.1.length : Int) != (bt301.1.length : Int))) else (whirligiglaw02_TokJoins.j0 k bt301.1 bt312.1 true)) else (whirligiglaw02_TokJoins.j0 k bt301.1 bt312.1 true)))))) else (some true)))) else (some false))
theorem whirligiglaw02_TokJoins.mono_l : ∀ k, (∀ y0 y1 y2, LeO (whirligiglaw02_TokJoins.j0 k y0 y1 y2) (whirligiglaw02_TokJoins.j0 (k + 1) y0 y1 y2)) ∧ (∀ y0 y1 y2 y3, LeO (whirligiglaw02_TokJoins.l0 k y0 y1 y2 y3) (whirligiglaw02_TokJoins.l0 (k + 1) y0 y1 y2 y3))
 | 0 => ⟨fun _ _ _ r h => by simp [whirligiglaw02_TokJoins.j0] at h, fun _ _ _ _ r h => by simp [whirligiglaw02_TokJoins.l0] at h⟩
 | k + 1 => by
  obtain ⟨ih0, ih1⟩ := whirligiglaw02_TokJoins.mono_l k
  refine ⟨?_, ?_⟩
  ·intro y0 y1 y2
   unfold whirligiglaw02_TokJoins.j0
   repeat' first
   | (with_reducible exact ih0 _ _ _)
   | (with_reducible exact ih1 _ _ _ _)
   | (with_reducible exact tok_Lex.mono _ _)
   | (with_reducible exact whirligiglaw02_anchor.mono _)
   | (with_reducible exact whirligigref02_Join.mono _ _)
   | (with_reducible exact whirligigref02_Lex.mono _ _)
   | (with_reducible exact LeO.refl _)
   | (with_reducible exact LeO.none _)
   | (with_reducible refine LeO.ite ?_ ?_)
   | (with_reducible refine LeO.bind ?_ (fun _ => ?_))
   | exact ih0 _ _ _
   | exact ih1 _ _ _ _
   | exact tok_Lex.mono _ _
   | exact whirligiglaw02_anchor.mono _
   | exact whirligigref02_Join.mono _ _
   | exact whirligigref02_Lex.mono _ _
   | exact LeO.none _
   | refine LeO.ite ?_ ?_
   | refine LeO.bind ?_ (fun _ => ?_)
  ·intro y0 y1 y2 y3
   unfold whirligiglaw02_TokJoins.l0
   repeat' first
   | (with_reducible exact ih0 _ _ _)
   | (with_reducible exact ih1 _ _ _ _)
   | (with_reducible exact tok_Lex.mono _ _)
   | (with_reducible exact whirligiglaw02_anchor.mono _)
   | (with_reducible exact whirligigref02_Join.mono _ _)
   | (with_reducible exact whirligigref02_Lex.mono _ _)
   | (with_reducible exact LeO.refl _)
   | (with_reducible exact LeO.none _)
   | (with_reducible refine LeO.ite ?_ ?_)
   | (with_reducible refine LeO.bind ?_ (fun _ => ?_))
   | exact ih0 _ _ _
   | exact ih1 _ _ _ _
   | exact tok_Lex.mono _ _
   | exact whirligiglaw02_anchor.mono _
   | exact whirligigref02_Join.mono _ _
   | exact whirligigref02_Lex.mono _ _
   | exact LeO.none _
   | refine LeO.ite ?_ ?_
   | refine LeO.bind ?_ (fun _ => ?_)
theorem whirligiglaw02_TokJoins.mono : ∀ a0 k, LeO (whirligiglaw02_TokJoins.f k a0) (whirligiglaw02_TokJoins.f (k + 1) a0) := by
 intro a0 k
 obtain ⟨ih0, ih1⟩ := whirligiglaw02_TokJoins.mono_l k
 unfold whirligiglaw02_TokJoins.f
 repeat' first
   | (with_reducible exact ih0 _ _ _)
   | (with_reducible exact ih1 _ _ _ _)
   | (with_reducible exact tok_Lex.mono _ _)
   | (with_reducible exact whirligiglaw02_anchor.mono _)
   | (with_reducible exact whirligigref02_Join.mono _ _)
   | (with_reducible exact whirligigref02_Lex.mono _ _)
   | (with_reducible exact LeO.refl _)
   | (with_reducible exact LeO.none _)
   | (with_reducible refine LeO.ite ?_ ?_)
   | (with_reducible refine LeO.bind ?_ (fun _ => ?_))
   | exact ih0 _ _ _
   | exact ih1 _ _ _ _
   | exact tok_Lex.mono _ _
   | exact whirligiglaw02_anchor.mono _
   | exact whirligigref02_Join.mono _ _
   | exact whirligigref02_Lex.mono _ _
   | exact LeO.none _
   | refine LeO.ite ?_ ?_
   | refine LeO.bind ?_ (fun _ => ?_)
def act_Event.f (k : Nat) (a0 : ByteArray) : Option (Bool) := (tok_Event.f k a0).bind fun t325 => (if t325 = true then ((tok_Means.f a0).bind fun t326 => (some (!t326))) else (some false))
theorem act_Event.mono : ∀ a0 k, LeO (act_Event.f k a0) (act_Event.f (k + 1) a0) := by
 intro a0 k
 unfold act_Event.f
 repeat' first
   | (with_reducible exact tok_Event.mono _ _)
   | (with_reducible exact LeO.refl _)
   | (with_reducible exact LeO.none _)
   | (with_reducible refine LeO.ite ?_ ?_)
   | (with_reducible refine LeO.bind ?_ (fun _ => ?_))
   | exact tok_Event.mono _ _
   | exact LeO.none _
   | refine LeO.ite ?_ ?_
   | refine LeO.bind ?_ (fun _ => ?_)
set_option maxHeartbeats 8000000 in
set_option maxRecDepth 100000 in
theorem act_Event.calls (k : Nat) (a0 : ByteArray) (r : Bool) (w : World) (hL : Laid w) (h : act_Event.f k a0 = some r) :
  Calls Tryd.prog 75 #[.string a0] w fun e w' => e = .returned (.bool r) ∧ Below w.heap.size w w' := by
 have HB := Aside0.mk (Below.refl w.heap.size w)
 have HLD := Aside0.mk hL
 clear hL
 have H : ((tok_Event.f k a0).bind fun t325 => (if t325 = true then ((tok_Means.f a0).bind fun t326 => (some (!t326))) else (some false))) = some r := h
 clear h
 replace H := Option.bind_eq_some_iff.mp H
 obtain ⟨t325, A20, H⟩ := H
 (try dsimp -simprocs only at H)
 have A2 := Aside0.mk A20
 clear A20
 by_cases c3 : t325 = true
 ·subst c3
  rw [if_pos rfl] at H
  replace H := Option.bind_eq_some_iff.mp H
  obtain ⟨t326, A40, H⟩ := H
  (try dsimp -simprocs only at H)
  have A4 := Aside0.mk A40
  clear A40
  obtain rfl := Option.some.inj H
  go_enter Tryd.func75, Tryd.ntmps75
  go_wp2_with (first | (refine gl (some 4) #[.string a0] Tryd.func24 ?_; (with_reducible refine (tok_Event.calls k a0 true _ ?side1 A2.out).mono ?_); (case side1 => exact Laid.below HLD.out qB); rintro e w5 ⟨rfl, hb⟩; refine ⟨_, rfl, ?_⟩; replace HB := bst hb; (try clear hb)) | (go_at_call 28; (with_reducible refine (tok_Means.calls a0 t326 _ A4.out).mono ?_); rintro e w' ⟨rfl, ⟨nd, rfl⟩⟩))
  go_ret
  exact ⟨qR, qB⟩
 ·replace c3 := Bool.eq_false_iff.mpr c3
  subst c3
  rw [if_neg (show ¬ (false = true) by decide)] at H
  obtain rfl := Option.some.inj H
  go_enter Tryd.func75, Tryd.ntmps75
  go_wp2_with (first | (refine gl (some 4) #[.string a0] Tryd.func24 ?_; (with_reducible refine (tok_Event.calls k a0 false _ ?side1 A2.out).mono ?_); (case side1 => exact Laid.below HLD.out qB); rintro e w6 ⟨rfl, hb⟩; refine ⟨_, rfl, ?_⟩; replace HB := bst hb; (try clear hb)))
  go_ret
  exact ⟨qR, qB⟩
end Go.Proofs.YtbngfhlciebeeaaDoor.L
end
section
namespace Go.Proofs.YtbngfhlciebeeaaDoor.L
open Go.RowKit Go.Proofs.YtbngfhlciebeeaaDoorW.PrintWords Go.Proofs.YtbngfhlciebeeaaDoorW.PrintLast Go.Proofs.YtbngfhlciebeeaaDoorW.PrintMore
attribute [local go_sem] max2_int min2_int max_two min_two max_three min_three max_four min_four   -- for this text's walks alone
set_option linter.unusedVariables false
set_option linter.unusedSimpArgs false
def tree_Input_Right.f (k : Nat) (a0_0 : Int) (a0_1 : Int) (a0_2 : ByteArray) (a0_3 : Int) : Option (Bool) := if a0_1 = 1 then ((act_Event.f k a0_2).bind fun t328 => (if t328 = true then (some (a0_3 == 0)) else (some false))) else (if a0_1 = 2 then (if a0_2.toList = ([] : List UInt8) then (if a0_3 ≥ 1 then (some (decide (a0_3 ≤ 1048576))) else (some false)) else (some false)) else (some false))
theorem tree_Input_Right.mono : ∀ a0 a1 a2 a3 k, LeO (tree_Input_Right.f k a0 a1 a2 a3) (tree_Input_Right.f (k + 1) a0 a1 a2 a3) := by
 intro a0 a1 a2 a3 k
 unfold tree_Input_Right.f
 repeat' first
   | (with_reducible exact act_Event.mono _ _)
   | (with_reducible exact LeO.refl _)
   | (with_reducible exact LeO.none _)
   | (with_reducible refine LeO.ite ?_ ?_)
   | (with_reducible refine LeO.bind ?_ (fun _ => ?_))
   | exact act_Event.mono _ _
   | exact LeO.none _
   | refine LeO.ite ?_ ?_
   | refine LeO.bind ?_ (fun _ => ?_)
set_option maxHeartbeats 8000000 in
set_option maxRecDepth 100000 in
theorem tree_Input_Right.calls (k : Nat) (a0_0 : Int) (a0_1 : Int) (a0_2 : ByteArray) (a0_3 : Int) (r : Bool) (w : World) (hL : Laid w) (h : tree_Input_Right.f k a0_0 a0_1 a0_2 a0_3 = some r) :
  Calls Tryd.prog 33 #[.agg #[.int .i64 a0_0, .int .i64 a0_1, .string a0_2, .int .i64 a0_3]] w fun e w' => e = .returned (.bool r) ∧ Below w.heap.size w w' := by
 have hu45 := Tryd.underlying45
 have HB := Aside0.mk (Below.refl w.heap.size w)
 have HLD := Aside0.mk hL
 clear hL
 have H : (if a0_1 = 1 then ((act_Event.f k a0_2).bind fun t328 => (if t328 = true then (some (a0_3 == 0)) else (some false))) else (if a0_1 = 2 then (if a0_2.toList = ([] : List UInt8) then (if a0_3 ≥ 1 then (some (decide (a0_3 ≤ 1048576))) else (some false)) else (some false)) else (some false))) = some r := h
 clear h
 by_cases c2 : a0_1 = 1
 ·rw [if_pos c2] at H
  have c2b0 := beq_iff_eq.mpr c2
  have c2b1 := bne_eq_false_iff_eq.mpr c2
  clear c2
  replace H := Option.bind_eq_some_iff.mp H
  obtain ⟨t328, A30, H⟩ := H
  (try dsimp -simprocs only at H)
  have A3 := Aside0.mk A30
  clear A30
  by_cases c4 : t328 = true
  ·subst c4
   rw [if_pos rfl] at H
   obtain rfl := Option.some.inj H
   go_enter Tryd.func33, Tryd.ntmps33
   go_wp2_with (first | (refine bx 1 #[.int .i64 a0_0, .int .i64 a0_1, .string a0_2, .int .i64 a0_3] 45 ?_; intro gb327 hg w5 hbox hb; have BK327 := Aside0.mk (hbox); have GW327 := geS hg; have GE327 := geS hg; replace HB := bst hb; clear hb hbox hg; obtain ⟨hcz6_0, hcz6_1, hcz6_2, hcz6_3, hfz6_0, hfz6_1, hfz6_2, hfz6_3⟩ := cells4 BK327.out) | (refine gl (some 9) #[.string a0_2] Tryd.func75 ?_; (with_reducible refine (act_Event.calls k a0_2 true _ ?side1 A3.out).mono ?_); (case side1 => exact Laid.below HLD.out qB); rintro e w7 ⟨rfl, hb⟩; refine ⟨_, rfl, ?_⟩; replace BK327 := kb gb327 hb; replace HB := bst hb; (try clear hb); obtain ⟨hcz8_0, hcz8_1, hcz8_2, hcz8_3, hfz8_0, hfz8_1, hfz8_2, hfz8_3⟩ := cells4 BK327.out))
   go_ret
   exact ⟨qR, qB⟩
  ·replace c4 := Bool.eq_false_iff.mpr c4
   subst c4
   rw [if_neg (show ¬ (false = true) by decide)] at H
   obtain rfl := Option.some.inj H
   go_enter Tryd.func33, Tryd.ntmps33
   go_wp2_with (first | (refine bx 1 #[.int .i64 a0_0, .int .i64 a0_1, .string a0_2, .int .i64 a0_3] 45 ?_; intro gb327 hg w9 hbox hb; have BK327 := Aside0.mk (hbox); have GW327 := geS hg; have GE327 := geS hg; replace HB := bst hb; clear hb hbox hg; obtain ⟨hcz10_0, hcz10_1, hcz10_2, hcz10_3, hfz10_0, hfz10_1, hfz10_2, hfz10_3⟩ := cells4 BK327.out) | (refine gl (some 9) #[.string a0_2] Tryd.func75 ?_; (with_reducible refine (act_Event.calls k a0_2 false _ ?side1 A3.out).mono ?_); (case side1 => exact Laid.below HLD.out qB); rintro e w11 ⟨rfl, hb⟩; refine ⟨_, rfl, ?_⟩; replace BK327 := kb gb327 hb; replace HB := bst hb; (try clear hb)))
   go_ret
   exact ⟨qR, qB⟩
 ·rw [if_neg c2] at H
  have c2b0 := beq_eq_false_iff_ne.mpr c2
  have c2b1 := bne_iff_ne.mpr c2
  by_cases c12 : a0_1 = 2
  ·rw [if_pos c12] at H
   have c12b0 := beq_iff_eq.mpr c12
   have c12b1 := bne_eq_false_iff_eq.mpr c12
   clear c12
   by_cases c13 : a0_2.toList = ([] : List UInt8)
   ·rw [if_pos c13] at H
    have c13b0 := beq_iff_eq.mpr c13
    have c13b1 := bne_eq_false_iff_eq.mpr c13
    clear c13
    by_cases c14 : a0_3 ≥ 1
    ·rw [if_pos c14] at H
     have c14b0 := decide_eq_true c14
     clear c14
     obtain rfl := Option.some.inj H
     go_enter Tryd.func33, Tryd.ntmps33
     go_wp2_with (first | (refine bx 1 #[.int .i64 a0_0, .int .i64 a0_1, .string a0_2, .int .i64 a0_3] 45 ?_; intro gb327 hg w15 hbox hb; have BK327 := Aside0.mk (hbox); have GW327 := geS hg; have GE327 := geS hg; replace HB := bst hb; clear hb hbox hg; obtain ⟨hcz16_0, hcz16_1, hcz16_2, hcz16_3, hfz16_0, hfz16_1, hfz16_2, hfz16_3⟩ := cells4 BK327.out))
     go_ret
     exact ⟨qR, qB⟩
    ·rw [if_neg c14] at H
     have c14b0 := decide_eq_false c14
     clear c14
     obtain rfl := Option.some.inj H
     go_enter Tryd.func33, Tryd.ntmps33
     go_wp2_with (first | (refine bx 1 #[.int .i64 a0_0, .int .i64 a0_1, .string a0_2, .int .i64 a0_3] 45 ?_; intro gb327 hg w17 hbox hb; have BK327 := Aside0.mk (hbox); have GW327 := geS hg; have GE327 := geS hg; replace HB := bst hb; clear hb hbox hg; obtain ⟨hcz18_0, hcz18_1, hcz18_2, hcz18_3, hfz18_0, hfz18_1, hfz18_2, hfz18_3⟩ := cells4 BK327.out))
     go_ret
     exact ⟨qR, qB⟩
   ·rw [if_neg c13] at H
    have c13b0 := beq_eq_false_iff_ne.mpr c13
    have c13b1 := bne_iff_ne.mpr c13
    obtain rfl := Option.some.inj H
    go_enter Tryd.func33, Tryd.ntmps33
    go_wp2_with (first | (refine bx 1 #[.int .i64 a0_0, .int .i64 a0_1, .string a0_2, .int .i64 a0_3] 45 ?_; intro gb327 hg w19 hbox hb; have BK327 := Aside0.mk (hbox); have GW327 := geS hg; have GE327 := geS hg; replace HB := bst hb; clear hb hbox hg; obtain ⟨hcz20_0, hcz20_1, hcz20_2, hcz20_3, hfz20_0, hfz20_1, hfz20_2, hfz20_3⟩ := cells4 BK327.out))
    go_ret
    exact ⟨qR, qB⟩
  ·rw [if_neg c12] at H
   have c12b0 := beq_eq_false_iff_ne.mpr c12
   have c12b1 := bne_iff_ne.mpr c12
   obtain rfl := Option.some.inj H
   go_enter Tryd.func33, Tryd.ntmps33
   go_wp2_with (first | (refine bx 1 #[.int .i64 a0_0, .int .i64 a0_1, .string a0_2, .int .i64 a0_3] 45 ?_; intro gb327 hg w21 hbox hb; have BK327 := Aside0.mk (hbox); have GW327 := geS hg; have GE327 := geS hg; replace HB := bst hb; clear hb hbox hg; obtain ⟨hcz22_0, hcz22_1, hcz22_2, hcz22_3, hfz22_0, hfz22_1, hfz22_2, hfz22_3⟩ := cells4 BK327.out))
   go_ret
   exact ⟨qR, qB⟩
end Go.Proofs.YtbngfhlciebeeaaDoor.L
end
