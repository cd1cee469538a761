/- Printed and hand-written steps towards the row (KindMore), those that it reaches. -/
import Derived.Test.YtbngfhlciebeeaaDoorKindMoreGPars1
import Derived.Test.YtbngfhlciebeeaaDoorKindMoreG4
import Derived.Test.YtbngfhlciebeeaaDoorKindMoreG5
section
namespace Go.Proofs.YtbngfhlciebeeaaDoor.L
set_option linter.unusedVariables false
set_option linter.unusedSimpArgs false
open Go.RowKit Go.Proofs.YtbngfhlciebeeaaDoorW.PrintWords Go.Proofs.YtbngfhlciebeeaaDoorW.PrintLast Go.Proofs.YtbngfhlciebeeaaDoorW.PrintMore
structure Lev where
  signs : List ByteArray
  ops : List Int
  once : Bool
def levelsL : List Lev := [⟨[⟨#[111, 114]⟩], [15], false⟩, ⟨[⟨#[97, 110, 100]⟩], [14], false⟩, ⟨[⟨#[60]⟩, ⟨#[60, 61]⟩, ⟨#[62]⟩, ⟨#[62, 61]⟩, ⟨#[61]⟩, ⟨#[33, 61]⟩], [8, 9, 10, 11, 12, 13], true⟩, ⟨[⟨#[43]⟩, ⟨#[45]⟩], [6, 7], false⟩, ⟨[⟨#[42]⟩, ⟨#[47]⟩, ⟨#[37]⟩], [3, 4, 5], false⟩]
def HasLev (W : World) (a : Nat) : Prop := ∃ s0 o0 s1 o1 s2 o2 s3 o3 s4 o4, W.heap[a]? = some (.cells #[.slice (some ⟨s0, 0, none⟩) 1 1, .slice (some ⟨o0, 0, none⟩) 1 1, .bool false, .slice (some ⟨s1, 0, none⟩) 1 1, .slice (some ⟨o1, 0, none⟩) 1 1, .bool false, .slice (some ⟨s2, 0, none⟩) 6 6, .slice (some ⟨o2, 0, none⟩) 6 6, .bool true, .slice (some ⟨s3, 0, none⟩) 2 2, .slice (some ⟨o3, 0, none⟩) 2 2, .bool false, .slice (some ⟨s4, 0, none⟩) 3 3, .slice (some ⟨o4, 0, none⟩) 3 3, .bool false] 197 (0, 0)) ∧ W.heap[s0]? = some (.cells #[.string ⟨#[111, 114]⟩] 9 (0, 0)) ∧ W.heap[o0]? = some (.cells #[.int .i64 15] 3 (0, 0)) ∧ W.heap[s1]? = some (.cells #[.string ⟨#[97, 110, 100]⟩] 9 (0, 0)) ∧ W.heap[o1]? = some (.cells #[.int .i64 14] 3 (0, 0)) ∧ W.heap[s2]? = some (.cells #[.string ⟨#[60]⟩, .string ⟨#[60, 61]⟩, .string ⟨#[62]⟩, .string ⟨#[62, 61]⟩, .string ⟨#[61]⟩, .string ⟨#[33, 61]⟩] 9 (0, 0)) ∧ W.heap[o2]? = some (.cells #[.int .i64 8, .int .i64 9, .int .i64 10, .int .i64 11, .int .i64 12, .int .i64 13] 3 (0, 0)) ∧ W.heap[s3]? = some (.cells #[.string ⟨#[43]⟩, .string ⟨#[45]⟩] 9 (0, 0)) ∧ W.heap[o3]? = some (.cells #[.int .i64 6, .int .i64 7] 3 (0, 0)) ∧ W.heap[s4]? = some (.cells #[.string ⟨#[42]⟩, .string ⟨#[47]⟩, .string ⟨#[37]⟩] 9 (0, 0)) ∧ W.heap[o4]? = some (.cells #[.int .i64 3, .int .i64 4, .int .i64 5] 3 (0, 0))
theorem HasLev.keep {W W1 : World} {a : Nat} (h : HasLev W a) (k : KeepT W W1) : HasLev W1 a := by
  obtain ⟨s0, o0, s1, o1, s2, o2, s3, o3, s4, o4, h, p0, q0, p1, q1, p2, q2, p3, q3, p4, q4⟩ := h
  exact ⟨s0, o0, s1, o1, s2, o2, s3, o3, s4, o4, k _ _ _ (by decide) (by decide) h, k _ _ _ (by decide) (by decide) p0, k _ _ _ (by decide) (by decide) q0, k _ _ _ (by decide) (by decide) p1, k _ _ _ (by decide) (by decide) q1, k _ _ _ (by decide) (by decide) p2, k _ _ _ (by decide) (by decide) q2, k _ _ _ (by decide) (by decide) p3, k _ _ _ (by decide) (by decide) q3, k _ _ _ (by decide) (by decide) p4, k _ _ _ (by decide) (by decide) q4⟩
theorem new_at {W : World} {n : Nat} (o : Obj) (hn : W.heap.size = n) : (W.alloc o).heap[n]? = some o := by subst hn; exact blk_new W o
theorem sz_al {W : World} {n : Nat} (o : Obj) (h : W.heap.size = n) : (W.alloc o).heap.size = n + 1 := by rw [size_alloc1, h]
set_option maxHeartbeats 4000000 in
set_option maxRecDepth 100000 in
theorem levels_calls (w : World) : Calls Tryd.prog 137 #[] w fun x w' => ∃ a, x = .returned (.slice (some ⟨a, 0, none⟩) 5 5) ∧ HasLev w' a ∧ Below w.heap.size w w' := by
  go_enter Tryd.func137, Tryd.ntmps137
  go_wp2
  go_ret
  have z0 : w.heap.size = w.heap.size := rfl
  have b0 := new_at (.cells #[.string ⟨#[111, 114]⟩] 9) z0
  have z1 := sz_al (.cells #[.string ⟨#[111, 114]⟩] 9) z0
  have b1 := new_at (.cells #[.int .i64 15] 3) z1
  have z2 := sz_al (.cells #[.int .i64 15] 3) z1
  have b2 := new_at (.cells #[.string ⟨#[97, 110, 100]⟩] 9) z2
  have z3 := sz_al (.cells #[.string ⟨#[97, 110, 100]⟩] 9) z2
  have b3 := new_at (.cells #[.int .i64 14] 3) z3
  have z4 := sz_al (.cells #[.int .i64 14] 3) z3
  have b4 := new_at (.cells #[.string ⟨#[60]⟩, .string ⟨#[60, 61]⟩, .string ⟨#[62]⟩, .string ⟨#[62, 61]⟩, .string ⟨#[61]⟩, .string ⟨#[33, 61]⟩] 9) z4
  have z5 := sz_al (.cells #[.string ⟨#[60]⟩, .string ⟨#[60, 61]⟩, .string ⟨#[62]⟩, .string ⟨#[62, 61]⟩, .string ⟨#[61]⟩, .string ⟨#[33, 61]⟩] 9) z4
  have b5 := new_at (.cells #[.int .i64 8, .int .i64 9, .int .i64 10, .int .i64 11, .int .i64 12, .int .i64 13] 3) z5
  have z6 := sz_al (.cells #[.int .i64 8, .int .i64 9, .int .i64 10, .int .i64 11, .int .i64 12, .int .i64 13] 3) z5
  have b6 := new_at (.cells #[.string ⟨#[43]⟩, .string ⟨#[45]⟩] 9) z6
  have z7 := sz_al (.cells #[.string ⟨#[43]⟩, .string ⟨#[45]⟩] 9) z6
  have b7 := new_at (.cells #[.int .i64 6, .int .i64 7] 3) z7
  have z8 := sz_al (.cells #[.int .i64 6, .int .i64 7] 3) z7
  have b8 := new_at (.cells #[.string ⟨#[42]⟩, .string ⟨#[47]⟩, .string ⟨#[37]⟩] 9) z8
  have z9 := sz_al (.cells #[.string ⟨#[42]⟩, .string ⟨#[47]⟩, .string ⟨#[37]⟩] 9) z8
  have b9 := new_at (.cells #[.int .i64 3, .int .i64 4, .int .i64 5] 3) z9
  have z10 := sz_al (.cells #[.int .i64 3, .int .i64 4, .int .i64 5] 3) z9
  have b10 := new_at (.cells #[.slice (some ⟨w.heap.size, 0, none⟩) 1 1, .slice (some ⟨w.heap.size + 1, 0, none⟩) 1 1, .bool false, .slice (some ⟨w.heap.size + 1 + 1, 0, none⟩) 1 1, .slice (some ⟨w.heap.size + 1 + 1 + 1, 0, none⟩) 1 1, .bool false, .slice (some ⟨w.heap.size + 1 + 1 + 1 + 1, 0, none⟩) 6 6, .slice (some ⟨w.heap.size + 1 + 1 + 1 + 1 + 1, 0, none⟩) 6 6, .bool true, .slice (some ⟨w.heap.size + 1 + 1 + 1 + 1 + 1 + 1, 0, none⟩) 2 2, .slice (some ⟨w.heap.size + 1 + 1 + 1 + 1 + 1 + 1 + 1, 0, none⟩) 2 2, .bool false, .slice (some ⟨w.heap.size + 1 + 1 + 1 + 1 + 1 + 1 + 1 + 1, 0, none⟩) 3 3, .slice (some ⟨w.heap.size + 1 + 1 + 1 + 1 + 1 + 1 + 1 + 1 + 1, 0, none⟩) 3 3, .bool false] 197) z10
  exact ⟨_, rfl, ⟨_, _, _, _, _, _, _, _, _, _, b10, (blk_alloc (blk_alloc (blk_alloc (blk_alloc (blk_alloc (blk_alloc (blk_alloc (blk_alloc (blk_alloc (blk_alloc b0 _) _) _) _) _) _) _) _) _) _), (blk_alloc (blk_alloc (blk_alloc (blk_alloc (blk_alloc (blk_alloc (blk_alloc (blk_alloc (blk_alloc b1 _) _) _) _) _) _) _) _) _), (blk_alloc (blk_alloc (blk_alloc (blk_alloc (blk_alloc (blk_alloc (blk_alloc (blk_alloc b2 _) _) _) _) _) _) _) _), (blk_alloc (blk_alloc (blk_alloc (blk_alloc (blk_alloc (blk_alloc (blk_alloc b3 _) _) _) _) _) _) _), (blk_alloc (blk_alloc (blk_alloc (blk_alloc (blk_alloc (blk_alloc b4 _) _) _) _) _) _), (blk_alloc (blk_alloc (blk_alloc (blk_alloc (blk_alloc b5 _) _) _) _) _), (blk_alloc (blk_alloc (blk_alloc (blk_alloc b6 _) _) _) _), (blk_alloc (blk_alloc (blk_alloc b7 _) _) _), (blk_alloc (blk_alloc b8 _) _), (blk_alloc b9 _)⟩, qT⟩
theorem C_strs {w : World} {g : Nat} {ss : List ByteArray} (h : w.heap[g]? = some (.cells (ss.map Value.string).toArray 9 (0, 0))) (hl : ss.length ≤ 1000000) : Kd.C Kd.string w (some ⟨g, 0, none⟩) ss.length ss :=
  Kd.C_of_reads (d := ByteArray.empty) ⟨rfl, by omega, fun _ => ⟨_, rfl, fun j hj => by
    rw [add_plain, blk_cell h j, List.getElem?_toArray, List.getElem?_map, List.getElem?_eq_getElem hj, List.getD_eq_getElem?_getD, List.getElem?_eq_getElem hj]; rfl⟩⟩
theorem C_nums {w : World} {g : Nat} {ss : List Int} (h : w.heap[g]? = some (.cells (ss.map (Value.int .i64)).toArray 3 (0, 0))) (hl : ss.length ≤ 1000000) : Kd.C (Kd.int .i64) w (some ⟨g, 0, none⟩) ss.length ss :=
  Kd.C_of_reads (d := 0) ⟨rfl, by omega, fun _ => ⟨_, rfl, fun j hj => by
    rw [add_plain, blk_cell h j, List.getElem?_toArray, List.getElem?_map, List.getElem?_eq_getElem hj, List.getD_eq_getElem?_getD, List.getElem?_eq_getElem hj]; rfl⟩⟩
def opIn : List ByteArray → List Int → S32 → Option Int
  | s :: ss, o :: os, t => if isT t [s] = true then some o else opIn ss os t
  | _, _, _ => none
theorem opIn_hit {t : S32} : ∀ {ss : List ByteArray} {os : List Int} {j : Nat} (hs : j < ss.length) (ho : j < os.length), (∀ k (hk : k < ss.length), k < j → isT t [ss[k]] = false) → isT t [ss[j]] = true → opIn ss os t = some os[j]
  | [], _, j, hs, _, _, _ => by simp at hs
  | s :: ss, [], j, _, ho, _, _ => by simp at ho
  | s :: ss, o :: os, 0, _, _, _, h => by
    simp only [opIn]
    exact if_pos h
  | s :: ss, o :: os, j + 1, hs, ho, hno, h => by
    simp only [opIn]
    have h0 := hno 0 (by simp) (by omega)
    simp only [List.getElem_cons_zero] at h0
    rw [if_neg (by rw [h0]; decide)]
    refine opIn_hit (by simpa using hs) (by simpa using ho) (fun k hk hkj => ?_) h
    have := hno (k + 1) (by simpa using hk) (by omega)
    simpa using this
theorem opIn_miss {t : S32} : ∀ {ss : List ByteArray} {os : List Int}, (∀ k (hk : k < ss.length), isT t [ss[k]] = false) → opIn ss os t = none
  | [], _, _ => rfl
  | s :: ss, [], _ => rfl
  | s :: ss, o :: os, h => by
    simp only [opIn]
    have h0 := h 0 (by simp)
    simp only [List.getElem_cons_zero] at h0
    rw [if_neg (by rw [h0]; decide)]
    exact opIn_miss (fun k hk => by have := h (k + 1) (by simpa using hk); simpa using this)
theorem ints_at {w : World} {A : Option Addr} {xs : List Int} (h : Kd.C (Kd.int .i64) w A xs.length xs) {j : Nat} (hj : j < xs.length) : ∃ ad, A = some ad ∧ w.cell? (ad.add j) = some (.int .i64 xs[j]) := by
  obtain ⟨ad, e, hc⟩ := ReadsOf.at_ (Kd.reads_of_C (d := (0 : Int)) h) (j : Int) (by omega) (by omega)
  refine ⟨ad, e, ?_⟩
  rw [Int.toNat_natCast] at hc
  rw [hc]
  unfold rdOf
  rw [Int.toNat_natCast, List.getD_eq_getElem?_getD, List.getElem?_eq_getElem hj]; rfl
theorem strs_at {w : World} {A : Option Addr} {xs : List ByteArray} (h : Kd.C Kd.string w A xs.length xs) {j : Nat} (hj : j < xs.length) : ∃ ad, A = some ad ∧ w.cell? (ad.add j) = some (.string xs[j]) := by
  obtain ⟨ad, e, hc⟩ := ReadsOf.at_ (Kd.reads_of_C (d := ByteArray.empty) h) (j : Int) (by omega) (by omega)
  refine ⟨ad, e, ?_⟩
  rw [Int.toNat_natCast] at hc
  rw [hc]
  unfold rdOf
  rw [Int.toNat_natCast, List.getD_eq_getElem?_getD, List.getElem?_eq_getElem hj]; rfl
def OpPost (w0 w : World) (g : Nat) (A : Option Addr) (c : Nat) (l : List S32) (i : Nat) (e : List S156) (r : Option Int) (x : Ending) (w' : World) : Prop :=
  x = .returned (.int .i64 (r.getD 0)) ∧ IsP w0 w' g A c l (match r with | some _ => ((i + 1 : Nat) : Int) | none => (i : Int)) e ∧ KeepT w w'
set_option maxHeartbeats 4000000 in
set_option maxRecDepth 100000 in
theorem op_calls {w0 w : World} {g : Nat} {A : Option Addr} {c : Nat} {l : List S32} {i : Nat} {e : List S156} (h : IsP w0 w g A c l (i : Int) e) (sb ob : Nat) (ss : List ByteArray) (os : List Int) (hl : ss.length = os.length) (hl2 : ss.length ≤ 1000000) (bo : Bool)
    (hs : w.heap[sb]? = some (.cells (ss.map Value.string).toArray 9 (0, 0))) (ho : w.heap[ob]? = some (.cells (os.map (Value.int .i64)).toArray 3 (0, 0))) :
    Calls Tryd.prog 139 #[.pointer (some ⟨g, 0, none⟩), .agg #[.slice (some ⟨sb, 0, none⟩) ss.length ss.length, .slice (some ⟨ob, 0, none⟩) os.length os.length, .bool bo]] w (OpPost w0 w g A c l i e (opIn ss os (nextT l i))) := by
  have H := Aside0.mk (IsP.below h (below_alloc (Below.refl _ _) (.cells #[.slice (some ⟨sb, 0, none⟩) ss.length ss.length, .slice (some ⟨ob, 0, none⟩) os.length os.length, .bool bo] 197)))
  have K := Aside0.mk (KeepT.of_below (below_alloc (Below.refl w.heap.size w) (.cells #[.slice (some ⟨sb, 0, none⟩) ss.length ss.length, .slice (some ⟨ob, 0, none⟩) os.length os.length, .bool bo] 197)))
  have B := Aside0.mk (blk_new w (.cells #[.slice (some ⟨sb, 0, none⟩) ss.length ss.length, .slice (some ⟨ob, 0, none⟩) os.length os.length, .bool bo] 197))
  have S := Aside0.mk (blk_alloc hs (.cells #[.slice (some ⟨sb, 0, none⟩) ss.length ss.length, .slice (some ⟨ob, 0, none⟩) os.length os.length, .bool bo] 197))
  have O := Aside0.mk (blk_alloc ho (.cells #[.slice (some ⟨sb, 0, none⟩) ss.length ss.length, .slice (some ⟨ob, 0, none⟩) os.length os.length, .bool bo] 197))
  have HL := Aside0.mk hl
  clear h hs ho hl
  generalize hT : nextT l i = t
  have ET := Aside0.mk hT
  clear hT
  go_enter Tryd.func139, Tryd.ntmps139
  have c0 := blk_cell B.out 0
  go_wp2
  generalize w.alloc (.cells #[.slice (some ⟨sb, 0, none⟩) ss.length ss.length, .slice (some ⟨ob, 0, none⟩) os.length os.length, .bool bo] 197) = w1 at H K B S O c0 ⊢
  clear c0
  go_loopg [10] ss.length (fun kq v10 wr => ∃ (j : Nat), v10 = .int .i64 (j : Int) ∧ Aside0 (kq = ss.length - j) ∧ Aside0 (j ≤ ss.length) ∧ Aside0 (∀ k (hk : k < ss.length), k < j → isT t [ss[k]] = false) ∧ Aside0 (IsP w0 wr g A c l (i : Int) e) ∧ Aside0 (KeepT w1 wr))
  case atStart => exact ⟨0, rfl, ⟨rfl⟩, ⟨Nat.zero_le _⟩, ⟨fun k hk h => absurd h (Nat.not_lt_zero _)⟩, H, ⟨fun b cs t _ _ h => h⟩⟩
  case round =>
    obtain ⟨j, rfl, hk, hj, hno, HP, HK⟩ := hrel
    by_cases hlt : j < ss.length
    · have b1 : decide ((j : Int) < (ss.length : Int)) = true := decide_eq_true (by omega)
      have b2 : decide (0 ≤ (j : Int)) = true := decide_eq_true (by omega)
      obtain ⟨ad, eA, q0⟩ := strs_at (C_strs (HK.out _ _ _ (by decide) (by decide) S.out) hl2) hlt
      cases eA
      rw [add_plain] at q0
      cases hb : isT t [ss[j]] with
      | false =>
        have HB := Aside0.mk hb
        clear hb
        go_wp2_with (go_at_call 155; refine (take_calls HP.out ss[j] false (by rw [ET.out]; exact HB.out)).mono ?_)
        rintro x w2 rfl hp hkk
        have HP2 := Aside0.mk hp
        have HK2 := Aside0.mk (HK.out.trans hkk)
        clear hp hkk
        go_wp2
        go_roundg (ss.length - (j + 1))
        case rel => exact ⟨j + 1, rfl, ⟨rfl⟩, ⟨hlt⟩, ⟨fun k hk hkj => by
          by_cases h1 : k < j
          · exact hno.out k hk h1
          · have : k = j := by omega
            subst this
            exact HB.out⟩, HP2, HK2⟩
        case measure => have := hk.out; omega
      | true =>
        have HB := Aside0.mk hb
        have HR := Aside0.mk (opIn_hit hlt (by rw [← HL.out]; exact hlt) hno.out hb)
        clear hb
        go_wp2_with (go_at_call 155; refine (take_calls HP.out ss[j] true (by rw [ET.out]; exact HB.out)).mono ?_)
        rintro x w2 rfl hp hkk
        have HP2 := Aside0.mk hp
        have HK2 := Aside0.mk (HK.out.trans hkk)
        clear hp hkk
        have hjo : j < os.length := by rw [← HL.out]; exact hlt
        have b3 : decide ((j : Int) < (os.length : Int)) = true := decide_eq_true (by omega)
        obtain ⟨ad2, eA2, q1⟩ := ints_at (C_nums (HK2.out _ _ _ (by decide) (by decide) O.out) (by rw [← HL.out]; exact hl2)) hjo
        cases eA2
        rw [add_plain] at q1
        have c1 := blk_cell (HK2.out _ _ _ (by decide) (by decide) B.out) 1
        go_wp2
        go_ret
        rw [HR.out]
        exact ⟨rfl, HP2.out, K.out.trans HK2.out⟩
    · have b1 : decide ((j : Int) < (ss.length : Int)) = false := decide_eq_false (by omega)
      have HR := Aside0.mk (opIn_miss (t := t) (os := os) (fun k hk => hno.out k hk (by omega)))
      go_wp2
      go_ret
      rw [HR.out]
      exact ⟨rfl, HP.out, K.out.trans HK.out⟩
end Go.Proofs.YtbngfhlciebeeaaDoor.L
end
section
namespace Go.Proofs.YtbngfhlciebeeaaDoor.L
open Go.RowKit Go.Proofs.YtbngfhlciebeeaaDoorW.PrintWords Go.Proofs.YtbngfhlciebeeaaDoorW.PrintLast Go.Proofs.YtbngfhlciebeeaaDoorW.PrintMore
attribute [local go_sem] max2_int min2_int max_two min_two max_three min_three max_four min_four   -- for this text's walks alone
set_option linter.unusedVariables false
set_option linter.unusedSimpArgs false
def val_Of.f (a0 : Int) : Option (Int × Int × ByteArray) := some (1, a0, (⟨#[]⟩ : ByteArray))
set_option maxHeartbeats 8000000 in
set_option maxRecDepth 100000 in
theorem val_Of.calls (a0 : Int) (r1 : Int) (r2 : Int) (r3 : ByteArray) (w : World) (h : val_Of.f a0 = some (r1, r2, r3)) :
  Calls Tryd.prog 96 #[.int .i64 a0] w fun e w' => e = .returned (.agg #[.int .i64 r1, .int .i64 r2, .string r3]) ∧ Below w.heap.size w w' := by
 have hu103 := Tryd.underlying103
 have HB := Aside0.mk (Below.refl w.heap.size w)
 have H : (some (1, a0, (⟨#[]⟩ : ByteArray))) = some (r1, r2, r3) := h
 clear h
 simp only [Option.some.injEq, Prod.mk.injEq] at H
 obtain ⟨rfl, rfl, rfl⟩ := H
 go_enter Tryd.func96, Tryd.ntmps96
 go_wp2_with (first | ((with_reducible refine gd 2 rfl ?_); refine bx 2 #[.int .i64 0, .int .i64 0, .string (⟨#[]⟩ : ByteArray)] 103 ?_; intro gb759 hg w2 hbox hb; have BK759 := Aside0.mk (hbox); have GW759 := geS hg; have GE759 := geS hg; replace HB := bst hb; clear hb hbox hg; obtain ⟨hcz3_0, hcz3_1, hcz3_2, hfz3_0, hfz3_1, hfz3_2⟩ := cells3 BK759.out))
 refine bodyPost_ret (results_cell_row rfl _ _ gb759 103 #[.int .i64 1, .int .i64 a0, .string (⟨#[]⟩ : ByteArray)] (0, 0) _ rfl qP Tryd.underlying103 rfl (by kernel_rfl)) rfl ?_
 exact ⟨qR, qB⟩
end Go.Proofs.YtbngfhlciebeeaaDoor.L
end
