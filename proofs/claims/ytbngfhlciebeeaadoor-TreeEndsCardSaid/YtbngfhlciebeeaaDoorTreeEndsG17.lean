/- Printed and hand-written steps towards the row (TreeEnds), those that it reaches. -/
import Derived.Test.YtbngfhlciebeeaaDoorTreeEndsG16
import Derived.Test.YtbngfhlciebeeaaDoorTreeEndsG5
import Derived.Test.YtbngfhlciebeeaaDoorTreeEndsG6
import Derived.Test.YtbngfhlciebeeaaDoorTreeEndsLxf24
section
namespace Go.Proofs.YtbngfhlciebeeaaDoor.Sp
set_option linter.unusedVariables false
set_option linter.unusedSimpArgs false
open Go.RowKit Go.Proofs.YtbngfhlciebeeaaDoor.L Go.Proofs.YtbngfhlciebeeaaDoorW.PrintWords
def i47 (x : S45) : S47 := ⟨x.f0, x.f1, x.f2, x.f3⟩
theorem i47_inj {x y : S45} (h : i47 x = i47 y) : x = y := by
  cases x; cases y
  simp only [i47, S47.mk.injEq] at h
  obtain ⟨rfl, rfl, rfl, rfl⟩ := h
  rfl
def evOk (s : ByteArray) : Bool := eventT s && !decide (s.data.toList ∈ meanWords)
def rightI (x : S45) : Bool :=
  if x.f1 = 1 then evOk x.f2 && (x.f3 == 0) else if x.f1 = 2 then decide (x.f2.data.toList = []) && (decide (1 ≤ x.f3) && decide (x.f3 ≤ 1048576)) else false
theorem rightI_kind {x : S45} (h : rightI x = true) : x.f1 ≠ 0 := by
  intro h0
  unfold rightI at h
  rw [h0, if_neg (by decide), if_neg (by decide)] at h
  cases h
def rising (len : Int) : Int → List S45 → Bool
  | _, [] => true
  | last, x :: xs => rightI x && (decide (last < x.f0) && (decide (x.f0 < len) && rising len x.f0 xs))
theorem rising_cons {len last : Int} {x : S45} {xs : List S45} : rising len last (x :: xs) = true ↔ rightI x = true ∧ last < x.f0 ∧ x.f0 < len ∧ rising len x.f0 xs = true := by
  simp [rising, Bool.and_eq_true]
theorem rising_len {len : Int} : ∀ {xs : List S45} {last : Int}, rising len last xs = true → last < len → (xs.length : Int) ≤ len - last - 1
  | [], last, _, h => by simp; omega
  | x :: xs, last, h, h0 => by
    obtain ⟨_, h1, h2, h3⟩ := rising_cons.1 h
    have := rising_len h3 h2
    simp only [List.length_cons]
    omega
theorem rising_mem {len : Int} : ∀ {xs : List S45} {last : Int}, rising len last xs = true → ∀ x ∈ xs, rightI x = true ∧ last < x.f0 ∧ x.f0 < len
  | [], _, _, x, hx => by cases hx
  | y :: xs, last, h, x, hx => by
    obtain ⟨h0, h1, h2, h3⟩ := rising_cons.1 h
    rcases List.mem_cons.1 hx with rfl | hx
    · exact ⟨h0, h1, h2⟩
    · obtain ⟨a, b, c⟩ := rising_mem h3 x hx
      exact ⟨a, by omega, c⟩
def gen : Nat → Nat → List S45 → List S47
  | _, 0, _ => []
  | m, n + 1, [] => z47 :: gen (m + 1) n []
  | m, n + 1, x :: xs => if x.f0 = (m : Int) then i47 x :: gen (m + 1) n xs else z47 :: gen (m + 1) n (x :: xs)
theorem gen_length : ∀ (n m : Nat) (xs : List S45), (gen m n xs).length = n
  | 0, _, _ => by simp [gen]
  | n + 1, m, [] => by simp [gen, gen_length n]
  | n + 1, m, x :: xs => by
    unfold gen
    split
    · simp [gen_length n]
    · simp [gen_length n]
theorem gen_take : ∀ (a n m : Nat) (xs : List S45), a ≤ n → (gen m n xs).take a = gen m a xs
  | 0, n, m, xs, _ => by simp [gen]
  | a + 1, 0, m, xs, h => by omega
  | a + 1, n + 1, m, [], h => by
    simp only [gen, List.take_succ_cons]
    rw [gen_take a n (m + 1) [] (by omega)]
  | a + 1, n + 1, m, x :: xs, h => by
    simp only [gen]
    split
    · rw [List.take_succ_cons, gen_take a n (m + 1) xs (by omega)]
    · rw [List.take_succ_cons, gen_take a n (m + 1) (x :: xs) (by omega)]
def ahead (a : Int) (xs : List S45) : List S45 := xs.filter fun x => decide (x.f0 < a)
theorem ahead_none {len : Int} {a : Int} {xs : List S45} {last : Int} (h : rising len last xs = true) (ha : a ≤ last + 1) : ahead a xs = [] := by
  unfold ahead
  rw [List.filter_eq_nil_iff]
  intro x hx
  have := rising_mem h x hx
  simp
  omega
theorem kind_ne {x : S45} (h : rightI x = true) : i47 x ≠ z47 := fun e => rightI_kind h (by
  have := congrArg S47.f1 e
  simpa [i47, z47] using this)
theorem gen_ahead {len len' : Int} : ∀ (a m : Nat) (xs ys : List S45) (l1 l2 : Int), rising len l1 xs = true → rising len' l2 ys = true → (m : Int) ≤ l1 + 1 → (m : Int) ≤ l2 + 1 →
    (gen m a xs = gen m a ys ↔ ahead (m + a : Nat) xs = ahead (m + a : Nat) ys)
  | 0, m, xs, ys, l1, l2, hx, hy, h1, h2 => by
    simp only [gen, Nat.add_zero]
    rw [ahead_none hx h1, ahead_none hy h2]
    simp
  | a + 1, m, xs, ys, l1, l2, hx, hy, h1, h2 => by
    have key : ∀ (len : Int) (zs : List S45) (l : Int), rising len l zs = true → (m : Int) ≤ l + 1 → (∃ z zs', zs = z :: zs' ∧ z.f0 = (m : Int) ∧ rightI z = true ∧ rising len (m : Int) zs' = true ∧ gen m (a + 1) zs = i47 z :: gen (m + 1) a zs' ∧ ahead (m + (a + 1) : Nat) zs = z :: ahead (m + 1 + a : Nat) zs') ∨
        (∃ l', rising len l' zs = true ∧ ((m + 1 : Nat) : Int) ≤ l' + 1 ∧ gen m (a + 1) zs = z47 :: gen (m + 1) a zs ∧ ahead (m + (a + 1) : Nat) zs = ahead (m + 1 + a : Nat) zs ∧ (∀ z ∈ zs, (m : Int) < z.f0)) := by
      intro len zs l hz hl
      have hma : m + (a + 1) = m + 1 + a := by omega
      cases zs with
      | nil => exact Or.inr ⟨(m : Int), rfl, by omega, rfl, rfl, by simp⟩
      | cons z zs =>
        obtain ⟨r0, r1, r2, r3⟩ := rising_cons.1 hz
        by_cases he : z.f0 = (m : Int)
        · refine Or.inl ⟨z, zs, rfl, he, r0, by rw [← he]; exact r3, by simp only [gen]; rw [if_pos he], ?_⟩
          rw [hma]
          unfold ahead
          rw [List.filter_cons_of_pos (by simp; omega)]
        · refine Or.inr ⟨(m : Int), ?_, by omega, by simp only [gen]; rw [if_neg he], by rw [hma], fun y hy => ?_⟩
          · exact rising_cons.2 ⟨r0, by omega, r2, r3⟩
          · rcases List.mem_cons.1 hy with rfl | hy
            · omega
            · have := rising_mem r3 y hy
              omega
    rcases key len xs l1 hx h1 with ⟨x, xs', rfl, hx0, hxr, hx1, hx2, hx3⟩ | ⟨l1', hx1, hx1', hx2, hx3, hx4⟩
    · rcases key len' ys l2 hy h2 with ⟨y, ys', rfl, hy0, hyr, hy1, hy2, hy3⟩ | ⟨l2', hy1, hy1', hy2, hy3, hy4⟩
      · rw [hx2, hy2, hx3, hy3]
        have ih := gen_ahead a (m + 1) xs' ys' (m : Int) (m : Int) hx1 hy1 (by omega) (by omega)
        constructor
        · intro h
          obtain ⟨e1, e2⟩ := List.cons.inj h
          rw [i47_inj e1, ih.1 e2]
        · intro h
          obtain ⟨e1, e2⟩ := List.cons.inj h
          rw [e1, ih.2 e2]
      · rw [hx2, hy2, hx3, hy3]
        constructor
        · intro h
          exact absurd (List.cons.inj h).1 (kind_ne hxr)
        · intro h
          have hm : x ∈ ahead ((m + 1 + a : Nat) : Int) ys := by rw [← h]; exact List.mem_cons_self
          have := hy4 x ((List.mem_filter.1 hm).1)
          omega
    · rcases key len' ys l2 hy h2 with ⟨y, ys', rfl, hy0, hyr, hy1, hy2, hy3⟩ | ⟨l2', hy1, hy1', hy2, hy3, hy4⟩
      · rw [hx2, hy2, hx3, hy3]
        constructor
        · intro h
          exact absurd (List.cons.inj h).1.symm (kind_ne hyr)
        · intro h
          have hm : y ∈ ahead ((m + 1 + a : Nat) : Int) xs := by rw [h]; exact List.mem_cons_self
          have := hx4 y ((List.mem_filter.1 hm).1)
          omega
      · rw [hx2, hy2, hx3, hy3]
        have ih := gen_ahead a (m + 1) xs ys l1' l2' hx1 hy1 hx1' hy1'
        constructor
        · intro h
          exact ih.1 (List.cons.inj h).2
        · intro h
          rw [ih.2 h]
theorem gen_at {len : Int} : ∀ (n m : Nat) (xs : List S45) (last : Int), rising len last xs = true → (m : Int) ≤ last + 1 → ∀ j, j < n →
    (gen m n xs)[j]? = some (match xs.find? (fun x => x.f0 == ((m + j : Nat) : Int)) with | some x => i47 x | none => z47)
  | 0, _, _, _, _, _, j, hj => by omega
  | n + 1, m, [], last, h, hl, j, hj => by
    cases j with
    | zero => simp [gen]
    | succ j =>
      have := gen_at (len := len) n (m + 1) [] (m : Int) rfl (by omega) j (by omega)
      simpa [gen] using this
  | n + 1, m, x :: xs, last, h, hl, j, hj => by
    obtain ⟨r0, r1, r2, r3⟩ := rising_cons.1 h
    simp only [gen]
    by_cases he : x.f0 = (m : Int)
    · rw [if_pos he]
      cases j with
      | zero => simp [he]
      | succ j =>
        have ih := gen_at n (m + 1) xs x.f0 r3 (by omega) j (by omega)
        rw [List.getElem?_cons_succ, ih, List.find?_cons_of_neg (by simp; omega), show m + 1 + j = m + (j + 1) from by omega]
    · rw [if_neg he]
      cases j with
      | zero =>
        have hno : (x :: xs).find? (fun x => x.f0 == ((m + 0 : Nat) : Int)) = none := by
          rw [List.find?_eq_none]
          intro y hy
          rcases List.mem_cons.1 hy with rfl | hy
          · simpa using he
          · have := rising_mem r3 y hy
            simp
            omega
        rw [hno]; rfl
      | succ j =>
        have ih := gen_at n (m + 1) (x :: xs) (m : Int) (rising_cons.2 ⟨r0, by omega, r2, r3⟩) (by omega) j (by omega)
        rw [List.getElem?_cons_succ, ih, show m + 1 + j = m + (j + 1) from by omega]
end Go.Proofs.YtbngfhlciebeeaaDoor.Sp
end
section
namespace Go.Proofs.YtbngfhlciebeeaaDoor.L
open Go.RowKit Go.Proofs.YtbngfhlciebeeaaDoorW.PrintWords Go.Proofs.YtbngfhlciebeeaaDoorW.PrintLast Go.Proofs.YtbngfhlciebeeaaDoorW.PrintMore
attribute [local go_sem] max2_int min2_int max_two min_two max_three min_three max_four min_four   -- for this text's walks alone
set_option linter.unusedVariables false
set_option linter.unusedSimpArgs false
def act_Event.f (k : Nat) (a0 : ByteArray) : Option (Bool) := (tok_Event.f k a0).bind fun t325 => (if t325 = true then ((tok_Means.f a0).bind fun t326 => (some (!t326))) else (some false))
set_option maxHeartbeats 8000000 in
set_option maxRecDepth 100000 in
theorem act_Event.calls (k : Nat) (a0 : ByteArray) (r : Bool) (w : World) (hL : Laid w) (h : act_Event.f k a0 = some r) :
  Calls Tryd.prog 75 #[.string a0] w fun e w' => e = .returned (.bool r) ∧ Below w.heap.size w w' := by
 have HB := Aside0.mk (Below.refl w.heap.size w)
 have HLD := Aside0.mk hL
 clear hL
 have H : ((tok_Event.f k a0).bind fun t325 => (if t325 = true then ((tok_Means.f a0).bind fun t326 => (some (!t326))) else (some false))) = some r := h
 clear h
 replace H := Option.bind_eq_some_iff.mp H
 obtain ⟨t325, A20, H⟩ := H
 (try dsimp -simprocs only at H)
 have A2 := Aside0.mk A20
 clear A20
 by_cases c3 : t325 = true
 ·subst c3
  rw [if_pos rfl] at H
  replace H := Option.bind_eq_some_iff.mp H
  obtain ⟨t326, A40, H⟩ := H
  (try dsimp -simprocs only at H)
  have A4 := Aside0.mk A40
  clear A40
  obtain rfl := Option.some.inj H
  go_enter Tryd.func75, Tryd.ntmps75
  go_wp2_with (first | ((with_reducible refine gc 24 rfl ?_); refine gl (some 4) #[.string a0] Tryd.func24 ?_; (with_reducible refine (tok_Event.calls k a0 true _ ?side1 A2.out).mono ?_); (case side1 => exact Laid.below HLD.out qB); rintro e w5 ⟨rfl, hb⟩; refine ⟨_, rfl, ?_⟩; replace HB := bst hb; (try clear hb)) | (go_at_call 28; (with_reducible refine (tok_Means.calls a0 t326 _ A4.out).mono ?_); rintro e w' ⟨rfl, ⟨nd, rfl⟩⟩))
  go_ret
  exact ⟨qR, qB⟩
 ·replace c3 := Bool.eq_false_iff.mpr c3
  subst c3
  rw [if_neg (show ¬ (false = true) by decide)] at H
  obtain rfl := Option.some.inj H
  go_enter Tryd.func75, Tryd.ntmps75
  go_wp2_with (first | ((with_reducible refine gc 24 rfl ?_); refine gl (some 4) #[.string a0] Tryd.func24 ?_; (with_reducible refine (tok_Event.calls k a0 false _ ?side1 A2.out).mono ?_); (case side1 => exact Laid.below HLD.out qB); rintro e w6 ⟨rfl, hb⟩; refine ⟨_, rfl, ?_⟩; replace HB := bst hb; (try clear hb)))
  go_ret
  exact ⟨qR, qB⟩
end Go.Proofs.YtbngfhlciebeeaaDoor.L
end
section
namespace Go.Proofs.YtbngfhlciebeeaaDoor.L
open Go.RowKit Go.Proofs.YtbngfhlciebeeaaDoorW.PrintWords Go.Proofs.YtbngfhlciebeeaaDoorW.PrintLast Go.Proofs.YtbngfhlciebeeaaDoorW.PrintMore
attribute [local go_sem] max2_int min2_int max_two min_two max_three min_three max_four min_four   -- for this text's walks alone
set_option linter.unusedVariables false
set_option linter.unusedSimpArgs false
def tree_Input_Right.f (k : Nat) (a0_0 : Int) (a0_1 : Int) (a0_2 : ByteArray) (a0_3 : Int) : Option (Bool) := if a0_1 = 1 then ((act_Event.f k a0_2).bind fun t328 => (if t328 = true then (some (a0_3 == 0)) else (some false))) else (if a0_1 = 2 then (if a0_2.toList = ([] : List UInt8) then (if a0_3 ≥ 1 then (some (decide (a0_3 ≤ 1048576))) else (some false)) else (some false)) else (some false))
set_option maxHeartbeats 8000000 in
set_option maxRecDepth 100000 in
theorem tree_Input_Right.calls (k : Nat) (a0_0 : Int) (a0_1 : Int) (a0_2 : ByteArray) (a0_3 : Int) (r : Bool) (w : World) (hL : Laid w) (h : tree_Input_Right.f k a0_0 a0_1 a0_2 a0_3 = some r) :
  Calls Tryd.prog 33 #[.agg #[.int .i64 a0_0, .int .i64 a0_1, .string a0_2, .int .i64 a0_3]] w fun e w' => e = .returned (.bool r) ∧ Below w.heap.size w w' := by
 have hu45 := Tryd.underlying45
 have HB := Aside0.mk (Below.refl w.heap.size w)
 have HLD := Aside0.mk hL
 clear hL
 have H : (if a0_1 = 1 then ((act_Event.f k a0_2).bind fun t328 => (if t328 = true then (some (a0_3 == 0)) else (some false))) else (if a0_1 = 2 then (if a0_2.toList = ([] : List UInt8) then (if a0_3 ≥ 1 then (some (decide (a0_3 ≤ 1048576))) else (some false)) else (some false)) else (some false))) = some r := h
 clear h
 by_cases c2 : a0_1 = 1
 ·rw [if_pos c2] at H
  have c2b0 := beq_iff_eq.mpr c2
  have c2b1 := bne_eq_false_iff_eq.mpr c2
  clear c2
  replace H := Option.bind_eq_some_iff.mp H
  obtain ⟨t328, A30, H⟩ := H
  (try dsimp -simprocs only at H)
  have A3 := Aside0.mk A30
  clear A30
  by_cases c4 : t328 = true
  ·subst c4
   rw [if_pos rfl] at H
   obtain rfl := Option.some.inj H
   go_enter Tryd.func33, Tryd.ntmps33
   go_wp2_with (first | ((with_reducible refine gd 1 rfl ?_); refine bx 1 #[.int .i64 a0_0, .int .i64 a0_1, .string a0_2, .int .i64 a0_3] 45 ?_; intro gb327 hg w5 hbox hb; have BK327 := Aside0.mk (hbox); have GW327 := geS hg; have GE327 := geS hg; replace HB := bst hb; clear hb hbox hg; obtain ⟨hcz6_0, hcz6_1, hcz6_2, hcz6_3, hfz6_0, hfz6_1, hfz6_2, hfz6_3⟩ := cells4 BK327.out) | ((with_reducible refine gc 75 rfl ?_); refine gl (some 9) #[.string a0_2] Tryd.func75 ?_; (with_reducible refine (act_Event.calls k a0_2 true _ ?side1 A3.out).mono ?_); (case side1 => exact Laid.below HLD.out qB); rintro e w7 ⟨rfl, hb⟩; refine ⟨_, rfl, ?_⟩; replace BK327 := kb gb327 hb; replace HB := bst hb; (try clear hb); obtain ⟨hcz8_0, hcz8_1, hcz8_2, hcz8_3, hfz8_0, hfz8_1, hfz8_2, hfz8_3⟩ := cells4 BK327.out))
   go_ret
   exact ⟨qR, qB⟩
  ·replace c4 := Bool.eq_false_iff.mpr c4
   subst c4
   rw [if_neg (show ¬ (false = true) by decide)] at H
   obtain rfl := Option.some.inj H
   go_enter Tryd.func33, Tryd.ntmps33
   go_wp2_with (first | ((with_reducible refine gd 1 rfl ?_); refine bx 1 #[.int .i64 a0_0, .int .i64 a0_1, .string a0_2, .int .i64 a0_3] 45 ?_; intro gb327 hg w9 hbox hb; have BK327 := Aside0.mk (hbox); have GW327 := geS hg; have GE327 := geS hg; replace HB := bst hb; clear hb hbox hg; obtain ⟨hcz10_0, hcz10_1, hcz10_2, hcz10_3, hfz10_0, hfz10_1, hfz10_2, hfz10_3⟩ := cells4 BK327.out) | ((with_reducible refine gc 75 rfl ?_); refine gl (some 9) #[.string a0_2] Tryd.func75 ?_; (with_reducible refine (act_Event.calls k a0_2 false _ ?side1 A3.out).mono ?_); (case side1 => exact Laid.below HLD.out qB); rintro e w11 ⟨rfl, hb⟩; refine ⟨_, rfl, ?_⟩; replace BK327 := kb gb327 hb; replace HB := bst hb; (try clear hb)))
   go_ret
   exact ⟨qR, qB⟩
 ·rw [if_neg c2] at H
  have c2b0 := beq_eq_false_iff_ne.mpr c2
  have c2b1 := bne_iff_ne.mpr c2
  by_cases c12 : a0_1 = 2
  ·rw [if_pos c12] at H
   have c12b0 := beq_iff_eq.mpr c12
   have c12b1 := bne_eq_false_iff_eq.mpr c12
   clear c12
   by_cases c13 : a0_2.toList = ([] : List UInt8)
   ·rw [if_pos c13] at H
    have c13b0 := beq_iff_eq.mpr c13
    have c13b1 := bne_eq_false_iff_eq.mpr c13
    clear c13
    replace H := iD H
    rcases H with ⟨c14b0, H⟩ | ⟨c14b0, H⟩
    ·obtain rfl := Option.some.inj H
     go_enter Tryd.func33, Tryd.ntmps33
     go_wp2_with (first | ((with_reducible refine gd 1 rfl ?_); refine bx 1 #[.int .i64 a0_0, .int .i64 a0_1, .string a0_2, .int .i64 a0_3] 45 ?_; intro gb327 hg w15 hbox hb; have BK327 := Aside0.mk (hbox); have GW327 := geS hg; have GE327 := geS hg; replace HB := bst hb; clear hb hbox hg; obtain ⟨hcz16_0, hcz16_1, hcz16_2, hcz16_3, hfz16_0, hfz16_1, hfz16_2, hfz16_3⟩ := cells4 BK327.out))
     go_ret
     exact ⟨qR, qB⟩
    ·obtain rfl := Option.some.inj H
     go_enter Tryd.func33, Tryd.ntmps33
     go_wp2_with (first | ((with_reducible refine gd 1 rfl ?_); refine bx 1 #[.int .i64 a0_0, .int .i64 a0_1, .string a0_2, .int .i64 a0_3] 45 ?_; intro gb327 hg w17 hbox hb; have BK327 := Aside0.mk (hbox); have GW327 := geS hg; have GE327 := geS hg; replace HB := bst hb; clear hb hbox hg; obtain ⟨hcz18_0, hcz18_1, hcz18_2, hcz18_3, hfz18_0, hfz18_1, hfz18_2, hfz18_3⟩ := cells4 BK327.out))
     go_ret
     exact ⟨qR, qB⟩
   ·rw [if_neg c13] at H
    have c13b0 := beq_eq_false_iff_ne.mpr c13
    have c13b1 := bne_iff_ne.mpr c13
    obtain rfl := Option.some.inj H
    go_enter Tryd.func33, Tryd.ntmps33
    go_wp2_with (first | ((with_reducible refine gd 1 rfl ?_); refine bx 1 #[.int .i64 a0_0, .int .i64 a0_1, .string a0_2, .int .i64 a0_3] 45 ?_; intro gb327 hg w19 hbox hb; have BK327 := Aside0.mk (hbox); have GW327 := geS hg; have GE327 := geS hg; replace HB := bst hb; clear hb hbox hg; obtain ⟨hcz20_0, hcz20_1, hcz20_2, hcz20_3, hfz20_0, hfz20_1, hfz20_2, hfz20_3⟩ := cells4 BK327.out))
    go_ret
    exact ⟨qR, qB⟩
  ·rw [if_neg c12] at H
   have c12b0 := beq_eq_false_iff_ne.mpr c12
   have c12b1 := bne_iff_ne.mpr c12
   obtain rfl := Option.some.inj H
   go_enter Tryd.func33, Tryd.ntmps33
   go_wp2_with (first | ((with_reducible refine gd 1 rfl ?_); refine bx 1 #[.int .i64 a0_0, .int .i64 a0_1, .string a0_2, .int .i64 a0_3] 45 ?_; intro gb327 hg w21 hbox hb; have BK327 := Aside0.mk (hbox); have GW327 := geS hg; have GE327 := geS hg; replace HB := bst hb; clear hb hbox hg; obtain ⟨hcz22_0, hcz22_1, hcz22_2, hcz22_3, hfz22_0, hfz22_1, hfz22_2, hfz22_3⟩ := cells4 BK327.out))
   go_ret
   exact ⟨qR, qB⟩
end Go.Proofs.YtbngfhlciebeeaaDoor.L
end
