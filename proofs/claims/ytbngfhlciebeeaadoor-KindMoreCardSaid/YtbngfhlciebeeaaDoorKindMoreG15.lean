/- Printed and hand-written steps towards the row (KindMore), those that it reaches. -/
import Derived.Test.YtbngfhlciebeeaaDoorKindMoreG4
import Derived.Test.YtbngfhlciebeeaaDoorKindMoreG5
import Derived.Test.YtbngfhlciebeeaaDoorKindMoreLxf28
import Derived.Test.YtbngfhlciebeeaaDoorKindMoreG12
import Derived.Test.YtbngfhlciebeeaaDoorKindMoreG13
import Derived.KernelRfl
import Derived.ChangeArms
import Derived.WideShapes
import Derived.DataElems
import Derived.Lib.LaidTab
import Derived.OpenShut
import Derived.SizedLaws
section
namespace Go.Proofs.YtbngfhlciebeeaaDoor.L
open Go.RowKit Go.Proofs.YtbngfhlciebeeaaDoorW.PrintWords Go.Proofs.YtbngfhlciebeeaaDoorW.PrintLast Go.Proofs.YtbngfhlciebeeaaDoorW.PrintMore
attribute [local go_sem] max2_int min2_int max_two min_two max_three min_three max_four min_four   -- for this text's walks alone
set_option linter.unusedVariables false
set_option linter.unusedSimpArgs false
def tok_Name.f (k : Nat) (a0 : ByteArray) : Option (Bool) := (tok_Lex.f k a0).bind fun bt268 => (if bt268.2.1 = 0 then (if (bt268.1.length : Int) = 1 then (if 0 < (bt268.1.length : Int) then (if ((rd_T32 bt268.1 0).f0) = 1 then (if ((rd_T32 bt268.1 0).f1).toList = a0.toList then ((tok_Means.f a0).bind fun t275 => (some (!t275))) else (some false)) else (some false)) else (none)) else (some false)) else (some false))
set_option maxHeartbeats 8000000 in
set_option maxRecDepth 100000 in
theorem tok_Name.calls (k : Nat) (a0 : ByteArray) (r : Bool) (w : World) (hL : Laid w) (h : tok_Name.f k a0 = some r) :
  Calls Tryd.prog 26 #[.string a0] w fun e w' => e = .returned (.bool r) ∧ Below w.heap.size w w' := by
 have HB := Aside0.mk (Below.refl w.heap.size w)
 have HLD := Aside0.mk hL
 clear hL
 have H : ((tok_Lex.f k a0).bind fun bt268 => (if bt268.2.1 = 0 then (if (bt268.1.length : Int) = 1 then (if 0 < (bt268.1.length : Int) then (if ((rd_T32 bt268.1 0).f0) = 1 then (if ((rd_T32 bt268.1 0).f1).toList = a0.toList then ((tok_Means.f a0).bind fun t275 => (some (!t275))) else (some false)) else (some false)) else (none)) else (some false)) else (some false))) = some r := h
 clear h
 replace H := Option.bind_eq_some_iff.mp H
 obtain ⟨⟨t268, t269, t270⟩, A20, H⟩ := H
 (try dsimp -simprocs only at H)
 have A2 := Aside0.mk A20
 clear A20
 by_cases c3 : t269 = 0
 ·rw [if_pos c3] at H
  have c3b0 := beq_iff_eq.mpr c3
  have c3b1 := bne_eq_false_iff_eq.mpr c3
  clear c3
  by_cases c4 : (t268.length : Int) = 1
  ·rw [if_pos c4] at H
   have c4b0 := beq_iff_eq.mpr c4
   have c4b1 := bne_eq_false_iff_eq.mpr c4
   clear c4
   by_cases c5 : 0 < (t268.length : Int)
   ·rw [if_pos c5] at H
    have c5b0 := decide_eq_true c5
    have c5b1 : decide (0 < t268.length) = true := decide_eq_true (by omega)
    clear c5
    by_cases c6 : ((rd_T32 t268 0).f0) = 1
    ·rw [if_pos c6] at H
     have c6b0 := beq_iff_eq.mpr c6
     have c6b1 := bne_eq_false_iff_eq.mpr c6
     clear c6
     by_cases c7 : ((rd_T32 t268 0).f1).toList = a0.toList
     ·rw [if_pos c7] at H
      have c7b0 := beq_iff_eq.mpr c7
      have c7b1 := bne_eq_false_iff_eq.mpr c7
      clear c7
      replace H := Option.bind_eq_some_iff.mp H
      obtain ⟨t275, A80, H⟩ := H
      (try dsimp -simprocs only at H)
      have A8 := Aside0.mk A80
      clear A80
      obtain rfl := Option.some.inj H
      go_enter Tryd.func26, Tryd.ntmps26
      go_wp2_with (first | ((with_reducible refine gc 20 rfl ?_); refine gl (some 8) #[.string a0] Tryd.func20 ?_; (with_reducible refine (tok_Lex.calls k a0 t268 t269 t270 _ ?side1 A2.out).mono ?_); (case side1 => exact Laid.below HLD.out qB); rintro e w9 ⟨v271, rfl, ho0, hb⟩; refine ⟨_, rfl, ?_⟩; have HO272 := Aside0.mk (Kd.R_lower ho0 (below_size qB)); replace HB := bst hb; (try clear hb); (try clear ho0); obtain ⟨Ao10, co10, eo10⟩ := Kd.R_slice HO272.out; subst eo10; have p273 : 0 ≤ (0 : Int) := (by omega); have q273 : 0 < (t268.length : Int) := qD; obtain ⟨ad273, e273, hx273_0, hx273_1, hx273_2, hx273_3⟩ := at_T32 (Kd.R_reads' HO272.out).2.2 0 p273 q273; cases e273; have qi273 : (0 < t268.length) = True := eq_true (by omega); (try rw [show ((0 : Int)).toNat = 0 from rfl] at hx273_0); (try rw [show 0 * 4 = 0 from rfl] at hx273_0); (try rw [Addr.add_zero'] at hx273_0); (try rw [show ((0 : Int)).toNat = 0 from rfl] at hx273_1); (try rw [show 0 * 4 = 0 from rfl] at hx273_1); (try rw [Addr.add_zero'] at hx273_1); (try rw [show ((0 : Int)).toNat = 0 from rfl] at hx273_2); (try rw [show 0 * 4 = 0 from rfl] at hx273_2); (try rw [Addr.add_zero'] at hx273_2); (try rw [show ((0 : Int)).toNat = 0 from rfl] at hx273_3); (try rw [show 0 * 4 = 0 from rfl] at hx273_3); (try rw [Addr.add_zero'] at hx273_3); replace p273 := eq_true p273; replace q273 := eq_true q273; have p274 : 0 ≤ (0 : Int) := (by omega); have q274 : 0 < (t268.length : Int) := qD; obtain ⟨ad274, e274, hx274_0, hx274_1, hx274_2, hx274_3⟩ := at_T32 (Kd.R_reads' HO272.out).2.2 0 p274 q274; obtain rfl : ad273 = ad274 := (by injection e274); have qi274 : (0 < t268.length) = True := eq_true (by omega); (try rw [show ((0 : Int)).toNat = 0 from rfl] at hx274_0); (try rw [show 0 * 4 = 0 from rfl] at hx274_0); (try rw [Addr.add_zero'] at hx274_0); (try rw [show ((0 : Int)).toNat = 0 from rfl] at hx274_1); (try rw [show 0 * 4 = 0 from rfl] at hx274_1); (try rw [Addr.add_zero'] at hx274_1); (try rw [show ((0 : Int)).toNat = 0 from rfl] at hx274_2); (try rw [show 0 * 4 = 0 from rfl] at hx274_2); (try rw [Addr.add_zero'] at hx274_2); (try rw [show ((0 : Int)).toNat = 0 from rfl] at hx274_3); (try rw [show 0 * 4 = 0 from rfl] at hx274_3); (try rw [Addr.add_zero'] at hx274_3); replace p274 := eq_true p274; replace q274 := eq_true q274) | (go_at_call 28; (with_reducible refine (tok_Means.calls a0 t275 _ A8.out).mono ?_); rintro e w' ⟨rfl, ⟨nd, rfl⟩⟩))
      go_ret
      exact ⟨qR, qB⟩
     ·rw [if_neg c7] at H
      have c7b0 := beq_eq_false_iff_ne.mpr c7
      have c7b1 := bne_iff_ne.mpr c7
      obtain rfl := Option.some.inj H
      go_enter Tryd.func26, Tryd.ntmps26
      go_wp2_with (first | ((with_reducible refine gc 20 rfl ?_); refine gl (some 8) #[.string a0] Tryd.func20 ?_; (with_reducible refine (tok_Lex.calls k a0 t268 t269 t270 _ ?side1 A2.out).mono ?_); (case side1 => exact Laid.below HLD.out qB); rintro e w11 ⟨v271, rfl, ho0, hb⟩; refine ⟨_, rfl, ?_⟩; have HO272 := Aside0.mk (Kd.R_lower ho0 (below_size qB)); replace HB := bst hb; (try clear hb); (try clear ho0); obtain ⟨Ao12, co12, eo12⟩ := Kd.R_slice HO272.out; subst eo12; have p273 : 0 ≤ (0 : Int) := (by omega); have q273 : 0 < (t268.length : Int) := qD; obtain ⟨ad273, e273, hx273_0, hx273_1, hx273_2, hx273_3⟩ := at_T32 (Kd.R_reads' HO272.out).2.2 0 p273 q273; cases e273; have qi273 : (0 < t268.length) = True := eq_true (by omega); (try rw [show ((0 : Int)).toNat = 0 from rfl] at hx273_0); (try rw [show 0 * 4 = 0 from rfl] at hx273_0); (try rw [Addr.add_zero'] at hx273_0); (try rw [show ((0 : Int)).toNat = 0 from rfl] at hx273_1); (try rw [show 0 * 4 = 0 from rfl] at hx273_1); (try rw [Addr.add_zero'] at hx273_1); (try rw [show ((0 : Int)).toNat = 0 from rfl] at hx273_2); (try rw [show 0 * 4 = 0 from rfl] at hx273_2); (try rw [Addr.add_zero'] at hx273_2); (try rw [show ((0 : Int)).toNat = 0 from rfl] at hx273_3); (try rw [show 0 * 4 = 0 from rfl] at hx273_3); (try rw [Addr.add_zero'] at hx273_3); replace p273 := eq_true p273; replace q273 := eq_true q273; have p274 : 0 ≤ (0 : Int) := (by omega); have q274 : 0 < (t268.length : Int) := qD; obtain ⟨ad274, e274, hx274_0, hx274_1, hx274_2, hx274_3⟩ := at_T32 (Kd.R_reads' HO272.out).2.2 0 p274 q274; obtain rfl : ad273 = ad274 := (by injection e274); have qi274 : (0 < t268.length) = True := eq_true (by omega); (try rw [show ((0 : Int)).toNat = 0 from rfl] at hx274_0); (try rw [show 0 * 4 = 0 from rfl] at hx274_0); (try rw [Addr.add_zero'] at hx274_0); (try rw [show ((0 : Int)).toNat = 0 from rfl] at hx274_1); (try rw [show 0 * 4 = 0 from rfl] at hx274_1); (try rw [Addr.add_zero'] at hx274_1); (try rw [show ((0 : Int)).toNat = 0 from rfl] at hx274_2); (try rw [show 0 * 4 = 0 from rfl] at hx274_2); (try rw [Addr.add_zero'] at hx274_2); (try rw [show ((0 : Int)).toNat = 0 from rfl] at hx274_3); (try rw [show 0 * 4 = 0 from rfl] at hx274_3); (try rw [Addr.add_zero'] at hx274_3); replace p274 := eq_true p274; replace q274 := eq_true q274))
      go_ret
      exact ⟨qR, qB⟩
    ·rw [if_neg c6] at H
     have c6b0 := beq_eq_false_iff_ne.mpr c6
     have c6b1 := bne_iff_ne.mpr c6
     obtain rfl := Option.some.inj H
     go_enter Tryd.func26, Tryd.ntmps26
     go_wp2_with (first | ((with_reducible refine gc 20 rfl ?_); refine gl (some 8) #[.string a0] Tryd.func20 ?_; (with_reducible refine (tok_Lex.calls k a0 t268 t269 t270 _ ?side1 A2.out).mono ?_); (case side1 => exact Laid.below HLD.out qB); rintro e w13 ⟨v271, rfl, ho0, hb⟩; refine ⟨_, rfl, ?_⟩; have HO272 := Aside0.mk (Kd.R_lower ho0 (below_size qB)); replace HB := bst hb; (try clear hb); (try clear ho0); obtain ⟨Ao14, co14, eo14⟩ := Kd.R_slice HO272.out; subst eo14; have p273 : 0 ≤ (0 : Int) := (by omega); have q273 : 0 < (t268.length : Int) := qD; obtain ⟨ad273, e273, hx273_0, hx273_1, hx273_2, hx273_3⟩ := at_T32 (Kd.R_reads' HO272.out).2.2 0 p273 q273; cases e273; have qi273 : (0 < t268.length) = True := eq_true (by omega); (try rw [show ((0 : Int)).toNat = 0 from rfl] at hx273_0); (try rw [show 0 * 4 = 0 from rfl] at hx273_0); (try rw [Addr.add_zero'] at hx273_0); (try rw [show ((0 : Int)).toNat = 0 from rfl] at hx273_1); (try rw [show 0 * 4 = 0 from rfl] at hx273_1); (try rw [Addr.add_zero'] at hx273_1); (try rw [show ((0 : Int)).toNat = 0 from rfl] at hx273_2); (try rw [show 0 * 4 = 0 from rfl] at hx273_2); (try rw [Addr.add_zero'] at hx273_2); (try rw [show ((0 : Int)).toNat = 0 from rfl] at hx273_3); (try rw [show 0 * 4 = 0 from rfl] at hx273_3); (try rw [Addr.add_zero'] at hx273_3); replace p273 := eq_true p273; replace q273 := eq_true q273))
     go_ret
     exact ⟨qR, qB⟩
   ·rw [if_neg c5] at H
    exact absurd H (by simp)
  ·rw [if_neg c4] at H
   have c4b0 := beq_eq_false_iff_ne.mpr c4
   have c4b1 := bne_iff_ne.mpr c4
   obtain rfl := Option.some.inj H
   go_enter Tryd.func26, Tryd.ntmps26
   go_wp2_with (first | ((with_reducible refine gc 20 rfl ?_); refine gl (some 8) #[.string a0] Tryd.func20 ?_; (with_reducible refine (tok_Lex.calls k a0 t268 t269 t270 _ ?side1 A2.out).mono ?_); (case side1 => exact Laid.below HLD.out qB); rintro e w15 ⟨v271, rfl, ho0, hb⟩; refine ⟨_, rfl, ?_⟩; have HO272 := Aside0.mk (Kd.R_lower ho0 (below_size qB)); replace HB := bst hb; (try clear hb); (try clear ho0); obtain ⟨Ao16, co16, eo16⟩ := Kd.R_slice HO272.out; subst eo16))
   go_ret
   exact ⟨qR, qB⟩
 ·rw [if_neg c3] at H
  have c3b0 := beq_eq_false_iff_ne.mpr c3
  have c3b1 := bne_iff_ne.mpr c3
  obtain rfl := Option.some.inj H
  go_enter Tryd.func26, Tryd.ntmps26
  go_wp2_with (first | ((with_reducible refine gc 20 rfl ?_); refine gl (some 8) #[.string a0] Tryd.func20 ?_; (with_reducible refine (tok_Lex.calls k a0 t268 t269 t270 _ ?side1 A2.out).mono ?_); (case side1 => exact Laid.below HLD.out qB); rintro e w17 ⟨v271, rfl, ho0, hb⟩; refine ⟨_, rfl, ?_⟩; have HO272 := Aside0.mk (Kd.R_lower ho0 (below_size qB)); replace HB := bst hb; (try clear hb); (try clear ho0)))
  go_ret
  exact ⟨qR, qB⟩
end Go.Proofs.YtbngfhlciebeeaaDoor.L
end
section
namespace Go.Proofs.YtbngfhlciebeeaaDoor.Sp
set_option linter.unusedVariables false
set_option linter.unusedSimpArgs false
open Go.RowKit Go.Proofs.YtbngfhlciebeeaaDoor.L Go.Proofs.YtbngfhlciebeeaaDoorW.PrintWords
def meanWords : List (List UInt8) := [[99, 104, 97, 114, 116], [118, 97, 114], [115, 116, 97, 116, 101], [112, 97, 114, 97, 108, 108, 101, 108], [102, 105, 110, 97, 108], [100, 101, 101, 112], [115, 104, 97, 108, 108, 111, 119], [101, 110, 116, 101, 114], [101, 120, 105, 116], [111, 110], [97, 117, 116, 111], [101, 110, 100], [105, 102], [103, 111], [105, 110, 110, 101, 114], [100, 111], [115, 101, 116], [114, 97, 105, 115, 101], [115, 101, 110, 100], [99, 97, 110, 99, 101, 108], [108, 111, 103], [116, 114, 117, 101], [102, 97, 108, 115, 101], [110, 111, 116], [97, 110, 100], [111, 114], [105, 110]]
theorem if_mem {x w : List UInt8} {ws : List (List UInt8)} {r : Option Bool} (h : r = some (decide (x ∈ ws))) : (if x = w then some true else r) = some (decide (x ∈ w :: ws)) := by
  by_cases hx : x = w
  · rw [if_pos hx, decide_eq_true (by rw [hx]; exact List.mem_cons_self)]
  · rw [if_neg hx, h]
    simp [hx]
theorem tMeans_eq (s : ByteArray) : tok_Means.f s = some (decide (s.data.toList ∈ meanWords)) := by
  have key : ∀ x : List UInt8, s.toList = x → tok_Means.f s = some (decide (x ∈ meanWords)) := fun x hx => by
    unfold tok_Means.f meanWords
    rw [hx]
    repeat' first
      | exact rfl
      | refine if_mem ?_
  exact key _ (ByteArray.toList_eq s)
theorem takeWhile_all {p : UInt8 → Bool} : ∀ (L : List UInt8), L.all p = true → L.takeWhile p = L
  | [], _ => rfl
  | c :: L, h => by
    simp only [List.all_cons, Bool.and_eq_true] at h
    rw [List.takeWhile_cons_of_pos h.1, takeWhile_all L h.2]
theorem pend_all {p : UInt8 → Bool} (L : List UInt8) : pend p L 0 = L.length ↔ L.all p = true := by
  unfold pend
  rw [List.drop_zero, Nat.zero_add]
  constructor
  · intro h
    rw [← (List.takeWhile_prefix p).eq_of_length h]
    exact List.all_takeWhile
  · intro h
    rw [takeWhile_all L h]
def nameT (s : ByteArray) : Bool := match lex s.data.toList with
  | ([t], e, _) => decide (e = 0) && decide (t.kind = 1) && decide (t.text = s.data.toList) && !decide (s.data.toList ∈ meanWords)
  | _ => false
theorem text_eq' (t : List UInt8) (s : ByteArray) : ((⟨t.toArray⟩ : ByteArray).toList = s.toList) ↔ t = s.data.toList := by
  rw [ByteArray.toList_eq, ByteArray.toList_eq]
theorem Name_ev (s : ByteArray) (hs : s.size ≤ 140737488351232) : Ev (fun k => tok_Name.f k s) (nameT s) := by
  unfold tok_Name.f nameT
  refine Ev.bind (Lex_ev s (by omega)) ?_
  generalize lex s.data.toList = x at *
  obtain ⟨ts, e, p⟩ := x
  dsimp only
  by_cases he : e = 0
  · refine Ev.pos he ?_
    rcases ts with _ | ⟨t, _ | ⟨t2, ts⟩⟩
    · exact Ev.neg (by simp) (Ev.some rfl)
    · refine Ev.pos (by simp) (Ev.pos (by simp) ?_)
      rw [show rd_T32 (List.map Tk.s32 [t]) 0 = t.s32 from rfl]
      have hx := text_eq' t.text s
      by_cases hk1 : t.kind = 1
      · refine Ev.pos hk1 ?_
        by_cases ht : t.text = s.data.toList
        · refine Ev.pos (hx.2 ht) (Ev.bind_some (tMeans_eq s) (Ev.some ?_))
          dsimp only
          rw [decide_eq_true he, decide_eq_true hk1, decide_eq_true ht]; rfl
        · refine Ev.neg (fun h => ht (hx.1 h)) (Ev.some ?_)
          dsimp only
          rw [decide_eq_false ht]; simp
      · refine Ev.neg hk1 (Ev.some ?_)
        dsimp only
        rw [decide_eq_false hk1]
        simp
    · exact Ev.neg (by simp; omega) (Ev.some rfl)
  · refine Ev.neg he (Ev.some ?_)
    rcases ts with _ | ⟨t, _ | ⟨t2, ts⟩⟩
    · rfl
    · dsimp only; rw [decide_eq_false he]; rfl
    · rfl
end Go.Proofs.YtbngfhlciebeeaaDoor.Sp
end
section
namespace Go.Proofs.YtbngfhlciebeeaaDoor.Opn
set_option linter.unusedVariables false
set_option linter.unusedSimpArgs false
open Go.RowKit Go.ChangeShapes Go.WideShapes Go.Proofs.YtbngfhlciebeeaaDoorW.PrintWords
section
variable {H : Type} {enc : TypeId × Value → H} {P : Program} {w : World} {base : Nat} {sp : Nat → Bool} {held : Bool} {α β : Type}
def Opens (enc : TypeId × Value → H) (P : Program) (w : World) (base : Nat) (sp : Nat → Bool) (held : Bool) (T : TypeId) (kd : Kd α) (ok : α → Prop) : Prop :=
  ∀ (n : Nat) (cs : List Value) (y : DataW H × List MemPlace), DataW.trod enc P w base sp held n T cs = some y → ∃ x, kd.K w x cs ∧ ok x
theorem opens_int {T : TypeId} {k : IntKind} (hu : P.underlying T = some (.int k)) : Opens enc P w base sp held T (Kd.int k) (fun n => (Lit.int k n).wf = true) := fun (n : Nat) (cs : List Value) y h => by
  obtain ⟨x, rfl, _, hw⟩ := DataW.trod_int hu h
  exact ⟨x, rfl, hw⟩
theorem opens_imp {T : TypeId} {kd : Kd α} {ok ok2 : α → Prop} (hi : ∀ x, ok x → ok2 x) (h : Opens enc P w base sp held T kd ok) : Opens enc P w base sp held T kd ok2 := fun n cs y hy => by
  obtain ⟨x, hx, ho⟩ := h n cs y hy
  exact ⟨x, hx, hi x ho⟩
theorem choose_list {p : Nat → α → Prop} : ∀ (n : Nat), (∀ i, i < n → ∃ x, p i x) → ∃ l : List α, l.length = n ∧ ∀ i x, l[i]? = some x → p i x
  | 0, _ => ⟨[], rfl, by simp⟩
  | n + 1, h => by
    obtain ⟨l, hl, hp⟩ := choose_list n (fun i hi => h i (by omega))
    obtain ⟨x, hx⟩ := h n (by omega)
    refine ⟨l ++ [x], by simp [hl], fun i y hy => ?_⟩
    by_cases hi : i < n
    · rw [List.getElem?_append_left (by omega)] at hy
      exact hp i y hy
    · rw [List.getElem?_append_right (by omega)] at hy
      have h1 : i = n := by
        have := (List.getElem?_eq_some_iff.1 hy).1
        simp at this
        omega
      subst h1
      rw [hl, Nat.sub_self] at hy
      simp at hy
      subst hy
      exact hx
theorem cells?_get {a : Addr} {n : Nat} {cs : List Value} (h : w.cells? base a n = some cs) : cs.length = n ∧ ∀ i u, cs[i]? = some u → w.cell? (a.add i) = some u := by
  unfold World.cells? at h
  split at h
  · have hl := Lib.mapM_length h
    simp at hl
    refine ⟨hl, fun i u hu => ?_⟩
    have hi : i < cs.length := (List.getElem?_eq_some_iff.1 hu).1
    obtain ⟨b, hb, hf⟩ := Lib.mapM_at h i i (by rw [List.getElem?_range (by omega)])
    rw [hu] at hb
    obtain rfl := Option.some.inj hb
    exact hf
  · cases h
end
end Go.Proofs.YtbngfhlciebeeaaDoor.Opn
end
section
namespace Go.Proofs.YtbngfhlciebeeaaDoor.Opn
set_option linter.unusedVariables false
set_option linter.unusedSimpArgs false
open Go.RowKit Go.ChangeShapes Go.WideShapes Go.Proofs.YtbngfhlciebeeaaDoorW.PrintWords
def I64 (n : Int) : Prop := -9223372036854775808 ≤ n ∧ n ≤ 9223372036854775807
theorem i64_of {n : Int} (h : (Lit.int .i64 n).wf = true) : I64 n := bounds_i64 h
section
variable {H : Type} {enc : TypeId × Value → H} {w : World} {base : Nat} {sp : Nat → Bool} {held : Bool}
theorem opens3 : Opens enc Tryd.prog w base sp held 3 (Kd.int .i64) I64 := opens_imp (fun _ h => i64_of h) (opens_int Tryd.underlying3)
end
end Go.Proofs.YtbngfhlciebeeaaDoor.Opn
end
section
namespace Go.Proofs.YtbngfhlciebeeaaDoor.Opn
set_option linter.unusedVariables false
set_option linter.unusedSimpArgs false
open Go.RowKit Go.ChangeShapes Go.WideShapes Go.Proofs.YtbngfhlciebeeaaDoorW.PrintWords
theorem weights_mem_all {H : Type} {P : Program} {e : TypeId} : ∀ {ds : List (DataW H)} {d : DataW H}, d ∈ ds → ∀ n ∈ d.weights P e, n ∈ DataW.weightsAll P e ds
  | [], _, h, _, _ => by cases h
  | d0 :: ds, d, h, n, hn => by
    simp only [DataW.weightsAll, List.mem_append]
    rcases List.mem_cons.1 h with rfl | h
    · exact Or.inl hn
    · exact Or.inr (weights_mem_all h n hn)
section
variable {H : Type} {enc : TypeId × Value → H} {P : Program} {w : World} {base : Nat} {sp : Nat → Bool} {held : Bool} {α β : Type}
def Reach (P : Program) (T : TypeId) (d : DataW H) : Prop := ∀ m ∈ d.weights P T, m ≤ reachBytes
def OpensW (enc : TypeId × Value → H) (P : Program) (w : World) (base : Nat) (sp : Nat → Bool) (held : Bool) (T : TypeId) (kd : Kd α) (ok : α → Prop) : Prop :=
  ∀ (n : Nat) (cs : List Value) (y : DataW H × List MemPlace), DataW.trod enc P w base sp held n T cs = some y → Reach P T y.1 → ∃ x, kd.K w x cs ∧ ok x
def OpensWF (enc : TypeId × Value → H) (P : Program) (w : World) (base : Nat) (sp : Nat → Bool) (held : Bool) (fs : List Field) (off tot : Nat) (kd : Kd α) (ok : α → Prop) : Prop :=
  ∀ (n : Nat) (cs : List Value), cs.length = tot → (∀ f ∈ fs, ∃ y, DataW.trod enc P w base sp held n f.type ((cs.drop f.offset).take (P.cellsOf f.type)) = some y ∧ Reach P f.type y.1) → ∃ x, kd.K w x (cs.drop off) ∧ ok x
theorem wide {T : TypeId} {kd : Kd α} {ok : α → Prop} (h : Opens enc P w base sp held T kd ok) : OpensW enc P w base sp held T kd ok := fun n cs y hy _ => h n cs y hy
theorem opensW_string {T : TypeId} (hu : P.underlying T = some .string) : OpensW enc P w base sp held T Kd.string (fun s => s.size ≤ 140737488351232) := fun n cs y h hr => by
  obtain ⟨x, rfl, hy, hw⟩ := DataW.trod_string hu h
  refine ⟨x, rfl, ?_⟩
  rw [hy] at hr
  have := hr x.data.toList.length (by simp [DataW.weights])
  rw [Array.length_toList] at this
  exact this
theorem opensWF_one {f : Field} {off tot : Nat} {kd : Kd α} {ok : α → Prop} (h : OpensW enc P w base sp held f.type kd ok) (ho : f.offset = off) (hs : off + P.cellsOf f.type = tot) : OpensWF enc P w base sp held [f] off tot kd ok := fun n cs hl hf => by
  obtain ⟨y, hy, hr⟩ := hf f (by simp)
  rw [ho, List.take_of_length_le (by rw [List.length_drop]; omega)] at hy
  exact h n _ y hy hr
theorem opensWF_cons {f : Field} {fs : List Field} {off tot : Nat} {a : Kd α} {b : Kd β} {ok : α → Prop} {ok2 : β → Prop} (h : OpensW enc P w base sp held f.type a ok) (ho : f.offset = off) (hr : OpensWF enc P w base sp held fs (off + P.cellsOf f.type) tot b ok2) :
    OpensWF enc P w base sp held (f :: fs) off tot (Kd.pair a b) (fun x => ok x.1 ∧ ok2 x.2) := fun n cs hl hf => by
  obtain ⟨y, hy, hrc⟩ := hf f (by simp)
  rw [ho] at hy
  obtain ⟨x, hx, hox⟩ := h n _ y hy hrc
  obtain ⟨z, hz, hoz⟩ := hr n cs hl (fun g hg => hf g (List.mem_cons_of_mem _ hg))
  refine ⟨(x, z), ⟨_, _, ?_, hx, hz⟩, hox, hoz⟩
  rw [← List.drop_drop, List.take_append_drop]
theorem opensW_struct {T : TypeId} {fs : Array Field} {tot : Nat} {kd : Kd α} {ok : α → Prop} (hu : P.underlying T = some (.struct fs)) (hc : P.cellsOf T = tot) (h : OpensWF enc P w base sp held fs.toList 0 tot kd ok) : OpensW enc P w base sp held T kd ok := fun n cs y hy hr => by
  obtain ⟨xs, m, _, hy1, hl, hxs, hf⟩ := DataW.trod_struct hu hy
  obtain ⟨x, hx, ho⟩ := h m cs (hl.trans hc) (fun f hm => by
    obtain ⟨i, hi⟩ := List.getElem?_of_mem hm
    have h1 := hf i f (by simpa using hi)
    have h2 : i < xs.length := by
      rw [hxs]
      have := (List.getElem?_eq_some_iff.1 hi).1
      simpa using this
    refine ⟨xs[i], h1.trans (List.getElem?_eq_getElem h2), fun z hz => hr z ?_⟩
    rw [hy1]
    simp only [DataW.weights, hu]
    exact DataW.weights_mem_each (j := i) (by rw [List.getElem?_map, hi]; rfl) (by rw [List.getElem?_map, List.getElem?_eq_getElem h2]; rfl) z hz)
  exact ⟨x, by simpa using hx, ho⟩
theorem opensW_iso {T : TypeId} {kd : Kd α} {ok : α → Prop} {f : β → α} (g : α → β) (hg : ∀ y, f (g y) = y) (h : OpensW enc P w base sp held T kd ok) : OpensW enc P w base sp held T (Kd.iso kd f) (fun x => ok (f x)) := fun n cs y hy hr => by
  obtain ⟨x, hx, ho⟩ := h n cs y hy hr
  exact ⟨g x, by show kd.K w (f (g x)) cs; rw [hg]; exact hx, by show ok (f (g x)); rw [hg]; exact ho⟩
theorem opensW_slice (b : Nat) {T E : TypeId} {q : Nat} {kd : Kd α} {ok : α → Prop} (hu : P.underlying T = some (.slice E)) (hc : P.cellsOf E = kd.sz) (hb : P.bytesOf E = b) (h : OpensW enc P w base sp held E kd ok) :
    OpensW enc P w base sp held T (Kd.slice q kd) (fun l => l.length * b ≤ 140737488351232 ∧ ∀ x ∈ l, ok x) := fun n cs y hy hr => by
  rcases DataW.trod_slice hu hy with ⟨rfl, _⟩ | ⟨a, len, cap, elems, rest, m, _, rfl, hy1, _, hl, hm, hel, he, _, _⟩
  · exact ⟨[], ⟨none, 0, rfl, Nat.le_refl _, rfl, by simp, fun h => absurd h (by simp)⟩, by simp, by simp⟩
  · obtain ⟨l, hll, hp⟩ := choose_list (p := fun i x => ∃ c, c.length = kd.sz ∧ kd.K w x c ∧ ok x ∧ ∀ j u, c[j]? = some u → w.cell? (a.add (i * kd.sz + j)) = some u) len (fun i hi => by
      have h1 := he i hi
      rw [hc, List.getElem?_eq_getElem (by omega)] at h1
      obtain ⟨c, hc1, hc2⟩ := Option.bind_eq_some_iff.1 h1
      obtain ⟨x, hx, hox⟩ := h m c _ hc2 (fun z hz => hr z (by
        rw [hy1]
        simp only [DataW.weights, hu, List.mem_cons, List.mem_append]
        exact Or.inr (Or.inl (weights_mem_all (List.mem_map_of_mem (List.getElem_mem _)) z hz))))
      obtain ⟨hlen, hget⟩ := cells?_get hc1
      exact ⟨x, c, hlen, hx, hox, fun j u hju => by
        have := hget j u hju
        rwa [Addr.add_add] at this⟩)
    have hlen : len * b ≤ 140737488351232 := by
      have := hr _ (by rw [hy1]; simp only [DataW.weights, hu, List.mem_cons]; exact Or.inl rfl)
      simp only [List.length_map, hb] at this
      have h3 : elems.length * b ≤ (elems.length + rest.length) * b := Nat.mul_le_mul_right _ (by omega)
      have h4 : reachBytes = 140737488351232 := rfl
      rw [hel] at h3
      rw [hel] at this
      omega
    refine ⟨l, ⟨some a, cap, by rw [hll], by omega, rfl, ?_, fun _ => ⟨a, rfl, fun j p hj => ?_⟩⟩, by rw [hll]; exact hlen, fun x hx => ?_⟩
    · simp only [maxLen] at hm; omega
    · obtain ⟨c, h1, h2, _, h4⟩ := hp j p hj
      exact ⟨c, h1, h2, h4⟩
    · obtain ⟨i, hi⟩ := List.getElem?_of_mem hx
      obtain ⟨c, _, _, h3, _⟩ := hp i x hi
      exact h3
theorem argW_struct {T : TypeId} {kd : Kd α} {ok : α → Prop} {cs : Array Value} {d : DataW H} {ps : List MemPlace} (h : OpensW enc P w base sp held T kd ok) (ht : DataW.Trod enc P w base sp held T (.agg cs) d ps) (hr : Reach P T d) :
    ∃ x, kd.K w x cs.toList ∧ ok x := by
  obtain ⟨n, hn⟩ := ht
  exact h n _ _ hn hr
theorem reach_of {ts : List TypeId} {ds : List (DataW H)} (h : (DataW.weightsEach P ts ds).all (· ≤ reachBytes) = true) {j : Nat} {t : TypeId} {d : DataW H} (ht : ts[j]? = some t) (hd : ds[j]? = some d) : Reach P t d := fun n hn => by
  have := List.all_eq_true.1 h _ (DataW.weights_mem_each ht hd n hn)
  simpa using this
theorem opensW9 : OpensW enc Tryd.prog w base sp held 9 Kd.string (fun s => s.size ≤ 140737488351232) := opensW_string Tryd.underlying9
end
end Go.Proofs.YtbngfhlciebeeaaDoor.Opn
end
section
namespace Go.Proofs.YtbngfhlciebeeaaDoor.Opn
set_option linter.unusedVariables false
set_option linter.unusedSimpArgs false
open Go.RowKit Go.ChangeShapes Go.WideShapes Go.Proofs.YtbngfhlciebeeaaDoorW.PrintWords
def Sz (s : ByteArray) : Prop := s.size ≤ 140737488351232
def okSs (l : List ByteArray) : Prop := l.length * 16 ≤ 140737488351232 ∧ ∀ x ∈ l, Sz x
def okVs (l : List L.S118) : Prop := l.length * 24 ≤ 140737488351232 ∧ ∀ x ∈ l, Sz x.f0 ∧ I64 x.f1
section
variable {H : Type} {enc : TypeId × Value → H} {w : World} {base : Nat} {sp : Nat → Bool} {held : Bool}
theorem opensW3 : OpensW enc Tryd.prog w base sp held 3 (Kd.int .i64) I64 := wide opens3
theorem opensV9 : OpensW enc Tryd.prog w base sp held 9 Kd.string Sz := opensW9
theorem opensV34 : OpensW enc Tryd.prog w base sp held 34 (Kd.slice 9 Kd.string) okSs := opensW_slice 16 Tryd.underlying34 (by kernel_rfl) (by kernel_rfl) opensV9
theorem opensV118 : OpensW enc Tryd.prog w base sp held 118 L.k118 (fun x => Sz x.f0 ∧ I64 x.f1) :=
  opensW_iso (fun x => ⟨x.1, x.2⟩) (fun _ => rfl)
    (opensW_struct Tryd.underlying118 (tot := 2) (by kernel_rfl) (opensWF_cons opensV9 rfl (opensWF_one opensW3 (by kernel_rfl) (by kernel_rfl))))
theorem opensV76 : OpensW enc Tryd.prog w base sp held 76 (Kd.slice 118 L.k118) okVs := opensW_slice 24 Tryd.underlying76 (by kernel_rfl) (by kernel_rfl) opensV118
theorem opensV78 : OpensW enc Tryd.prog w base sp held 78 (Kd.pair (Kd.slice 118 L.k118) (Kd.slice 9 Kd.string)) (fun x => okVs x.1 ∧ okSs x.2) :=
  opensW_struct Tryd.underlying78 (tot := 2) (by kernel_rfl) (opensWF_cons opensV76 rfl (opensWF_one opensV34 (by kernel_rfl) (by kernel_rfl)))
theorem two_rows {α β : Type} {q1 q2 : Nat} {a : Kd α} {b : Kd β} {x : List α × List β} {cs : List Value} (h : (Kd.pair (Kd.slice q1 a) (Kd.slice q2 b)).K w x cs) :
    ∃ (A : Option Addr) (c : Nat) (B : Option Addr) (d : Nat), cs = [.slice A x.1.length c, .slice B x.2.length d] ∧ x.1.length ≤ c ∧ Kd.C a w A x.1.length x.1 ∧ x.2.length ≤ d ∧ Kd.C b w B x.2.length x.2 := by
  obtain ⟨c1, c2, rfl, ⟨A, c, rfl, h1, h2⟩, ⟨B, d, rfl, h3, h4⟩⟩ := h
  exact ⟨A, c, B, d, rfl, h1, h2, h3, h4⟩
end
end Go.Proofs.YtbngfhlciebeeaaDoor.Opn
end
section
namespace Go.Proofs.YtbngfhlciebeeaaDoor.L
open Go.RowKit Go.Proofs.YtbngfhlciebeeaaDoorW.PrintWords Go.Proofs.YtbngfhlciebeeaaDoorW.PrintLast Go.Proofs.YtbngfhlciebeeaaDoorW.PrintMore
attribute [local go_sem] max2_int min2_int max_two min_two max_three min_three max_four min_four   -- for this text's walks alone
set_option linter.unusedVariables false
set_option linter.unusedSimpArgs false
def expr_one.f (a0 : Int) : Option (Bool) := if a0 = 1 then (some true) else (some (a0 == 2))
set_option maxHeartbeats 8000000 in
set_option maxRecDepth 100000 in
theorem expr_one.calls (a0 : Int) (r : Bool) (w : World) (h : expr_one.f a0 = some r) :
  Calls Tryd.prog 119 #[.int .i64 a0] w fun e w' => e = .returned (.bool r) ∧ Drawn0 w w' := by
 have H : (if a0 = 1 then (some true) else (some (a0 == 2))) = some r := h
 clear h
 by_cases c2 : a0 = 1
 ·rw [if_pos c2] at H
  have c2b0 := beq_iff_eq.mpr c2
  have c2b1 := bne_eq_false_iff_eq.mpr c2
  clear c2
  obtain rfl := Option.some.inj H
  go_enter Tryd.func119, Tryd.ntmps119
  go_wp2
  go_ret
  exact ⟨by first | rfl | (simp; done) | (simp [*]; done), by repeat (first | exact Drawn0.refl _ | apply Drawn0.step)⟩
 ·rw [if_neg c2] at H
  have c2b0 := beq_eq_false_iff_ne.mpr c2
  have c2b1 := bne_iff_ne.mpr c2
  obtain rfl := Option.some.inj H
  go_enter Tryd.func119, Tryd.ntmps119
  go_wp2
  go_ret
  exact ⟨by first | rfl | (simp; done) | (simp [*]; done), by repeat (first | exact Drawn0.refl _ | apply Drawn0.step)⟩
end Go.Proofs.YtbngfhlciebeeaaDoor.L
end
