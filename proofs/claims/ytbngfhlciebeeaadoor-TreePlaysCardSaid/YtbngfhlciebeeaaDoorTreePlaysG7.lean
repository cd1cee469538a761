/- Printed and hand-written steps towards the row (TreePlays), those that it reaches. -/
import Derived.Test.YtbngfhlciebeeaaDoorTreePlaysG6
import Derived.LoopTactic
import Derived.Laws.Rows
import Derived.Test.YtbngfhlciebeeaaDoorTreePlaysG4
import Derived.Test.YtbngfhlciebeeaaDoorTreePlaysG5
section
namespace Go.Proofs.YtbngfhlciebeeaaDoor.L
set_option linter.unusedVariables false
set_option linter.unusedSimpArgs false
open Go.RowKit Go.Proofs.YtbngfhlciebeeaaDoorW.PrintWords Go.Proofs.YtbngfhlciebeeaaDoorW.PrintLast Go.Proofs.YtbngfhlciebeeaaDoorW.PrintMore
def signFind (l : List UInt8) : Option (List UInt8) := signList.find? fun g => g.isPrefixOf l
def tok_reader_sign.f (s0_0 : ByteArray) (s0_1 : Int) : Option (Int × ByteArray × Int × Int × Int × ByteArray × Int) :=
  if 0 ≤ s0_1 ∧ s0_1 ≤ s0_0.size ∧ s0_0.size ≤ 140737488351232 then
    match signFind (s0_0.data.toList.drop s0_1.toNat) with
    | some g => some (5, ⟨g.toArray⟩, 0, 0, 0, s0_0, s0_1 + g.length)
    | none => some (0, ⟨#[]⟩, 0, 0, 11, s0_0, s0_1)
  else none
theorem index_sign (W : World) (k : Nat) (hk : k < 15) : (Instr.index 187 (.agg #[.string ⟨#[60, 61]⟩, .string ⟨#[62, 61]⟩, .string ⟨#[33, 61]⟩, .string ⟨#[40]⟩, .string ⟨#[41]⟩, .string ⟨#[59]⟩, .string ⟨#[58]⟩, .string ⟨#[43]⟩, .string ⟨#[45]⟩, .string ⟨#[42]⟩, .string ⟨#[47]⟩, .string ⟨#[37]⟩, .string ⟨#[60]⟩, .string ⟨#[62]⟩, .string ⟨#[61]⟩]) (.int .i64 (k : Int))).run Tryd.prog W = .ok (.string ⟨(signList.getD k []).toArray⟩) W := by
  have h : k = 0 ∨ k = 1 ∨ k = 2 ∨ k = 3 ∨ k = 4 ∨ k = 5 ∨ k = 6 ∨ k = 7 ∨ k = 8 ∨ k = 9 ∨ k = 10 ∨ k = 11 ∨ k = 12 ∨ k = 13 ∨ k = 14 := by omega
  clear hk
  rcases h with h | h | h | h | h | h | h | h | h | h | h | h | h | h | h <;> (subst h; show _ = _; kernel_rfl)
theorem isPrefixOf_take : ∀ (G L : List UInt8), G.isPrefixOf L = (decide (G.length ≤ L.length) && (L.take G.length == G))
  | [], L => by simp
  | a :: G, [] => by simp
  | a :: G, b :: L => by
    rw [List.isPrefixOf, isPrefixOf_take G L]
    simp only [List.length_cons, List.take_succ_cons, Nat.add_le_add_iff_right]
    rw [show ((b :: L.take G.length) == (a :: G)) = (b == a && (L.take G.length == G)) from rfl]
    rw [show (a == b) = (b == a) from Bool.beq_comm]
    cases b == a <;> simp
theorem extract_list (s : ByteArray) (i j : Nat) : (s.extract i j).data.toList = (s.data.toList.take j).drop i := by
  rw [ByteArray.data_extract, Array.toList_extract, List.extract_eq_take_drop, List.drop_take]
theorem hasPrefix_at (s : ByteArray) (i : Int) (G : List UInt8) (h0 : 0 ≤ i) (h1 : i ≤ s.size) : strings_HasPrefix.f (s.extract i.toNat s.size) ⟨G.toArray⟩ = some (G.isPrefixOf (s.data.toList.drop i.toNat)) := by
  have hl : s.data.toList.length = s.size := data_length s
  have hE : (s.extract i.toNat s.size).data.toList = s.data.toList.drop i.toNat := by rw [extract_list, List.take_of_length_le (by omega)]
  have hs : (s.extract i.toNat s.size).size = (s.data.toList.drop i.toNat).length := by rw [← data_length, hE]
  have hG : (⟨G.toArray⟩ : ByteArray).size = G.length := by rw [← data_length]
  unfold strings_HasPrefix.f stringslite_HasPrefix.f
  rw [hs, hG, isPrefixOf_take]
  by_cases h : G.length ≤ (s.data.toList.drop i.toNat).length
  · rw [if_pos (by exact_mod_cast h), if_pos (by omega), if_pos (by exact_mod_cast h)]
    simp only [Option.bind_some, Int.toNat_natCast, ByteArray.toList_eq, extract_list, List.drop_zero]
    rw [List.take_of_length_le (l := s.data.toList) (by omega), decide_eq_true h]; rfl
  · rw [if_neg (by exact_mod_cast h)]
    simp only [Option.bind_some]
    rw [decide_eq_false h]; rfl
theorem find_pos (G L : List UInt8) (l : List (List UInt8)) (h : G.isPrefixOf L = true) : (G :: l).find? (fun g => g.isPrefixOf L) = some G := by simp [List.find?, h]
theorem find_neg (G L : List UInt8) (l : List (List UInt8)) (h : G.isPrefixOf L = false) : (G :: l).find? (fun g => g.isPrefixOf L) = l.find? (fun g => g.isPrefixOf L) := by simp [List.find?, h]
theorem sign_short (m : Nat) : (signList.getD m []).length ≤ 2 := by
  by_cases h : m < 15
  · exact (show ∀ m, m < 15 → (signList.getD m []).length ≤ 2 by decide) m h
  · rw [List.getD_eq_getElem?_getD, List.getElem?_eq_none (by simp [signList]; omega)]; simp
set_option maxHeartbeats 2000000 in
set_option maxRecDepth 100000 in
theorem sign_core (g : Nat) (s : ByteArray) (i : Int) (r1 : Int) (r2 : ByteArray) (r3 r4 r5 : Int) (r6 : ByteArray) (r7 : Int) (w0 w : World) (hI : IsS122 w0 w g s i) (hB : Below w0.heap.size w0 w) (hL : Laid w)
    (h0 : 0 ≤ i) (h1 : i ≤ s.size) (h2 : s.size ≤ 140737488351232)
    (h : (match signFind (s.data.toList.drop i.toNat) with | some g => some (5, (⟨g.toArray⟩ : ByteArray), (0 : Int), (0 : Int), (0 : Int), s, i + g.length) | none => some (0, ⟨#[]⟩, 0, 0, 11, s, i)) = some (r1, r2, r3, r4, r5, r6, r7)) :
    Calls Tryd.prog 107 #[.pointer (some ⟨g, 0, none⟩)] w fun e w' => e = .returned (.tuple #[.agg #[.int .i64 r1, .string r2, .int .i64 r3, .int .i64 r4], .int .i64 r5]) ∧ IsS122 w0 w' g r6 r7 ∧ Below w0.heap.size w0 w' ∧ KeepBut w w' g none := by
  have HH := Aside0.mk h
  have HI := Aside0.mk hI
  have HB := Aside0.mk hB
  obtain ⟨tv, fr, hv⟩ := hL
  have HV := Aside0.mk hv
  clear h hI hB hv
  have hix := index_sign
  go_enter Tryd.func107, Tryd.ntmps107
  go_wp2_with (refine wpList_load_row rfl 187 _ rfl 0 rfl tv _ fr _ (blk_alloc HV.out _) Tryd.underlying187 rfl (by kernel_rfl) ?_)
  have HX := Aside0.mk hix
  clear hix
  generalize (Value.agg #[.string ⟨#[60, 61]⟩, .string ⟨#[62, 61]⟩, .string ⟨#[33, 61]⟩, .string ⟨#[40]⟩, .string ⟨#[41]⟩, .string ⟨#[59]⟩, .string ⟨#[58]⟩, .string ⟨#[43]⟩, .string ⟨#[45]⟩, .string ⟨#[42]⟩, .string ⟨#[47]⟩, .string ⟨#[37]⟩, .string ⟨#[60]⟩, .string ⟨#[62]⟩, .string ⟨#[61]⟩]) = SA at HX ⊢
  have HI1 := Aside0.mk (HI.out.alloc (.cells #[.int .i64 0, .string ⟨#[]⟩, .int .i64 0, .int .i64 0] 32))
  have HB1 := Aside0.mk (below_alloc HB.out (.cells #[.int .i64 0, .string ⟨#[]⟩, .int .i64 0, .int .i64 0] 32))
  have HG1 := Aside0.mk (heap_alloc_new w (.cells #[.int .i64 0, .string ⟨#[]⟩, .int .i64 0, .int .i64 0] 32))
  have HK1 := Aside0.mk (keep_alloc (KeepBut.refl w g none) (.cells #[.int .i64 0, .string ⟨#[]⟩, .int .i64 0, .int .i64 0] 32))
  generalize hw1 : w.alloc (.cells #[.int .i64 0, .string ⟨#[]⟩, .int .i64 0, .int .i64 0] 32) = w1 at HI1 HB1 HG1 HK1 ⊢
  have HW1 := Aside0.mk hw1
  clear hw1
  go_loopw [7] (fun v wr => ∃ (m n : Nat), m ≤ 15 ∧ v = .int .i64 m ∧ wr = w1.drewN n ∧ Aside0 (signList.find? (fun g => g.isPrefixOf (s.data.toList.drop i.toNat)) = (signList.drop m).find? (fun g => g.isPrefixOf (s.data.toList.drop i.toNat)))) (fun v _ => 15 - (intOf v).toNat)
  case atStart => exact ⟨0, 0, by omega, rfl, rfl, ⟨rfl⟩⟩
  case round =>
    obtain ⟨m, n, hm, rfl, rfl, hF⟩ := hrel
    by_cases hlt : m < 15
    · have hx : ∀ W, (Instr.index 187 SA (.int .i64 (m : Int))).run Tryd.prog W = .ok (.string ⟨(signList.getD m []).toArray⟩) W := fun W => HX.out W m hlt
      generalize hG : signList.getD m [] = G at hx
      have HG := Aside0.mk hG
      clear hG
      have hI2 := HI1.out
      obtain ⟨hgb, hgs⟩ := hI2
      have hc0 := cellS122_0 hgb
      have hc1 := cellS122_1 hgb
      have hf0 := blk_frozen hgb 0
      have hf1 := blk_frozen hgb 1
      clear hgb hgs
      have HP := Aside0.mk (hasPrefix_at s i G h0 h1)
      cases hb : G.isPrefixOf (s.data.toList.drop i.toNat) with
      | true =>
        rw [hb] at HP
        have hGl : signList.drop m = G :: signList.drop (m + 1) := by
          rw [List.drop_eq_getElem_cons (by simpa [signList] using hlt), ← HG.out, List.getD_eq_getElem?_getD, List.getElem?_eq_getElem (by simpa [signList] using hlt)]
          rfl
        have h := HH.out
        unfold signFind at h
        rw [hF.out, hGl, find_pos _ _ _ hb] at h
        simp only [Option.some.injEq, Prod.mk.injEq] at h
        clear hGl hF HH hb
        obtain ⟨rfl, rfl, rfl, rfl, rfl, rfl, rfl⟩ := h
        have hlen : (G.length : Int) ≤ 2 := by rw [← HG.out]; exact_mod_cast sign_short m
        have hn1 : g ≠ w.heap.size := Nat.ne_of_lt (IsS122.lt HI.out)
        have hn2 : w.heap.size ≠ g := Ne.symm hn1
        have d0 := blk_cell HG1.out 0
        have d1 := blk_cell HG1.out 1
        have d2 := blk_cell HG1.out 2
        have d3 := blk_cell HG1.out 3
        have e0 := blk_frozen HG1.out 0
        have e1 := blk_frozen HG1.out 1
        have e2 := blk_frozen HG1.out 2
        have e3 := blk_frozen HG1.out 3
        simp at d0 d1 d2 d3
        go_wp2
        go_quiet (first | (go_at_call 134; (with_reducible refine (strings_HasPrefix.calls _ _ true _ HP.out).mono ?_); rintro e w' ⟨rfl, ⟨nd, rfl⟩⟩; (try first | exact ⟨rfl, _, World.drewN_drewN _ _ _⟩ | exact ⟨rfl, _, Eq.trans (World.drewN_drewN _ _ _) (congrArg (World.drewN _) (Nat.add_assoc _ _ _))⟩)))
        go_wp2
        exact number_end rfl (cs := #[.int .i64 0, .string ⟨#[]⟩, .int .i64 0, .int .i64 0]) (blk_far HG1.out hn2 _) ((HI1.out.drewN _).set_1 _) (IsS122.lt HI.out) (below_set (pw_below_drewN HB1.out _) (IsS122.ge HI.out)) HB.out.size (KeepBut.set_ (keep_drewN HK1.out _) _ _) rfl ⟨rfl, rfl, rfl⟩
      | false =>
        rw [hb] at HP
        have hGl : signList.drop m = G :: signList.drop (m + 1) := by
          rw [List.drop_eq_getElem_cons (by simpa [signList] using hlt), ← HG.out, List.getD_eq_getElem?_getD, List.getElem?_eq_getElem (by simpa [signList] using hlt)]
          rfl
        have hF2 := Aside0.mk (hF.out.trans (by rw [hGl, find_neg _ _ _ hb] : _ = (signList.drop (m + 1)).find? (fun g => g.isPrefixOf (s.data.toList.drop i.toNat))))
        clear hGl hF hb
        go_wp2
        go_quiet (first | (go_at_call 134; (with_reducible refine (strings_HasPrefix.calls _ _ false _ HP.out).mono ?_); rintro e w' ⟨rfl, ⟨nd, rfl⟩⟩; (try first | exact ⟨rfl, _, World.drewN_drewN _ _ _⟩ | exact ⟨rfl, _, Eq.trans (World.drewN_drewN _ _ _) (congrArg (World.drewN _) (Nat.add_assoc _ _ _))⟩)))
        go_wp2
        go_roundw
        case rel => exact ⟨m + 1, _, by omega, by go_num, rfl, hF2⟩
        case measure => simp [intOf]; omega
    · have hm15 : m = 15 := by omega
      have h := HH.out
      unfold signFind at h
      rw [hF.out, hm15] at h
      simp only [signList, List.drop_succ_cons, List.drop_zero, List.find?_nil, Option.some.injEq, Prod.mk.injEq] at h
      clear hF HH hm15
      obtain ⟨rfl, rfl, rfl, rfl, rfl, rfl, rfl⟩ := h
      have d0 := blk_cell HG1.out 0
      have d1 := blk_cell HG1.out 1
      have d2 := blk_cell HG1.out 2
      have d3 := blk_cell HG1.out 3
      have e0 := blk_frozen HG1.out 0
      have e1 := blk_frozen HG1.out 1
      have e2 := blk_frozen HG1.out 2
      have e3 := blk_frozen HG1.out 3
      simp at d0 d1 d2 d3
      go_wp2
      exact number_end rfl (cs := #[.int .i64 0, .string ⟨#[]⟩, .int .i64 0, .int .i64 0]) (W := w1.drewN n) HG1.out (HI1.out.drewN _) (IsS122.lt HI.out) (pw_below_drewN HB1.out _) HB.out.size (keep_drewN HK1.out _) rfl ⟨rfl, rfl, rfl⟩
theorem tok_reader_sign.calls (g : Nat) (s0_0 : ByteArray) (s0_1 : Int) (r1 : Int) (r2 : ByteArray) (r3 r4 r5 : Int) (r6 : ByteArray) (r7 : Int) (w0 w : World) (hI : IsS122 w0 w g s0_0 s0_1) (hB : Below w0.heap.size w0 w) (hL : Laid w0) (h : tok_reader_sign.f s0_0 s0_1 = some (r1, r2, r3, r4, r5, r6, r7)) :
    Calls Tryd.prog 107 #[.pointer (some ⟨g, 0, none⟩)] w fun e w' => e = .returned (.tuple #[.agg #[.int .i64 r1, .string r2, .int .i64 r3, .int .i64 r4], .int .i64 r5]) ∧ IsS122 w0 w' g r6 r7 ∧ Below w0.heap.size w0 w' ∧ KeepBut w w' g none := by
  unfold tok_reader_sign.f at h
  split at h
  · rename_i hh
    exact sign_core g s0_0 s0_1 r1 r2 r3 r4 r5 r6 r7 w0 w hI hB (hL.below hB) hh.1 hh.2.1 hh.2.2 h
  · cases h
theorem ret_bool {a b : Bool} (h : a = b) : Ending.returned (.bool a) = .returned (.bool b) := by rw [h]
def val_Plain.ok (c : UInt8) : Bool := !(decide (c.toNat < 32) || decide (126 < c.toNat) || c.toNat == 39)
def val_Plain.f (a0 : ByteArray) : Option Bool := if a0.size ≤ 140737488351232 then some (a0.data.toList.all val_Plain.ok && decide (a0.size ≤ 48)) else none
theorem plain_ok_of {c : UInt8} (h1 : ¬ ((c.toNat : Int) < 32)) (h2 : ¬ (126 < (c.toNat : Int))) (h3 : ¬ ((c.toNat : Int) = 39)) : val_Plain.ok c = true := by
  unfold val_Plain.ok
  have a1 : decide (c.toNat < 32) = false := by simp; omega
  have a2 : decide (126 < c.toNat) = false := by simp; omega
  have a3 : (c.toNat == 39) = false := by simp; omega
  rw [a1, a2, a3]; rfl
theorem plain_bad {c : UInt8} (h : (c.toNat : Int) < 32 ∨ 126 < (c.toNat : Int) ∨ (c.toNat : Int) = 39) : val_Plain.ok c = false := by
  unfold val_Plain.ok
  rcases h with h | h | h
  · have : decide (c.toNat < 32) = true := by simp; omega
    rw [this]; rfl
  · have : decide (126 < c.toNat) = true := by simp; omega
    rw [this]; simp
  · have : (c.toNat == 39) = true := by simp; omega
    rw [this]; simp
theorem all_take_succ {l : List UInt8} {p : UInt8 → Bool} {k : Nat} (hk : k < l.length) (h : (l.take k).all p = true) (h2 : p (l.getD k 0) = true) : (l.take (k + 1)).all p = true := by
  rw [List.take_succ_eq_append_getElem hk, List.all_append, h]
  simp [List.getD_eq_getElem?_getD, hk] at h2 ⊢
  exact h2
theorem all_false_of {l : List UInt8} {p : UInt8 → Bool} {k : Nat} (hk : k < l.length) (h2 : p (l.getD k 0) = false) : l.all p = false := by
  rw [List.all_eq_false]
  refine ⟨l[k], List.getElem_mem hk, ?_⟩
  simp [List.getD_eq_getElem?_getD, hk] at h2
  simp [h2]
set_option maxHeartbeats 1000000 in
theorem plain_core (a0 : ByteArray) (r : Bool) (w : World) (hs : a0.size ≤ 140737488351232) (hr : Hid (r = (a0.data.toList.all val_Plain.ok && decide (a0.size ≤ 48)))) :
    Calls Tryd.prog 101 #[.string a0] w fun e w' => e = .returned (.bool r) ∧ Below w.heap.size w w' := by
  have kb := fun W => print_bytes (P := Tryd.prog) 9 131 5 Tryd.underlying9 Tryd.underlying131 Tryd.underlying5 a0 W
  go_enter Tryd.func101, Tryd.ntmps101
  go_wp2
  have hc : ∀ j, j < a0.size → (Lib.bytesWorld w 5 a0).cell? ⟨w.heap.size, j, none⟩ = some (.int .u8 (a0.data.toList.getD j 0).toNat) := fun j hj => Lib.bytesWorld_cell w 5 a0 j hj
  have HB := Aside0.mk (bytes_below (Below.refl w.heap.size w) (Nat.le_refl _) 5 a0)
  have HC := Aside0.mk hc
  clear hc kb
  generalize grownCap w a0.size 0 5 = cp
  generalize Lib.bytesWorld w 5 a0 = W at HB HC ⊢
  go_loop [8] (fun i => ∃ k : Nat, k ≤ a0.size ∧ i = .int .i64 k ∧ Hid ((a0.data.toList.take k).all val_Plain.ok = true)) (fun i => a0.size - (intOf i).toNat)
  case atStart => exact ⟨0, Nat.zero_le _, rfl, rfl⟩
  case round =>
    obtain ⟨k, hk, rfl, hall⟩ := hrel
    by_cases hlt : k < a0.size
    · have hcell := HC.out k hlt
      have hu : ((a0.data.toList.getD k 0).toNat : Int) < 256 := by have := (a0.data.toList.getD k 0).toNat_lt; omega
      have hl : k < a0.data.toList.length := by rw [data_length]; exact hlt
      obtain ⟨c, Hc⟩ : ∃ c, Hid (a0.data.toList.getD k 0 = c) := ⟨_, rfl⟩
      rw [Hc.out] at hcell hu
      by_cases h1 : (c.toNat : Int) < 32
      · have Hb : Hid (r = false) := by rw [hr.out, all_false_of hl (by rw [Hc.out]; exact plain_bad (.inl h1))]; rfl
        go_wp2
        go_ret
        exact ⟨ret_bool Hb.out.symm, HB.out⟩
      · by_cases h2 : 126 < (c.toNat : Int)
        · have Hb : Hid (r = false) := by rw [hr.out, all_false_of hl (by rw [Hc.out]; exact plain_bad (.inr (.inl h2)))]; rfl
          go_wp2
          go_ret
          exact ⟨ret_bool Hb.out.symm, HB.out⟩
        · by_cases h3 : (c.toNat : Int) = 39
          · have Hb : Hid (r = false) := by rw [hr.out, all_false_of hl (by rw [Hc.out]; exact plain_bad (.inr (.inr h3)))]; rfl
            have h4 : ((c.toNat : Int) == 39) = true := by rw [beq_iff_eq]; exact h3
            clear h3
            go_wp2
            go_ret
            exact ⟨ret_bool Hb.out.symm, HB.out⟩
          · have Hg : Hid ((a0.data.toList.take (k + 1)).all val_Plain.ok = true) := all_take_succ hl hall.out (by rw [Hc.out]; exact plain_ok_of h1 h2 h3)
            have h4 : ((c.toNat : Int) == 39) = false := by rw [beq_eq_false_iff_ne]; exact h3
            clear h3
            go_wp2
            go_round
            case rel => exact ⟨k + 1, by omega, by go_num, Hg⟩
            case measure => simp [intOf]; omega
    · have Hb : Hid (r = decide (a0.size ≤ 48)) := by
        rw [hr.out]
        have := hall.out
        rw [List.take_of_length_le (by rw [data_length]; omega)] at this
        rw [this]; rfl
      go_wp2
      go_ret
      exact ⟨ret_bool (by rw [Hb.out]; exact decide_eq_decide.2 (by omega)), HB.out⟩
theorem val_Plain.calls (a0 : ByteArray) (r : Bool) (w : World) (h : val_Plain.f a0 = some r) :
    Calls Tryd.prog 101 #[.string a0] w fun e w' => e = .returned (.bool r) ∧ Below w.heap.size w w' := by
  unfold val_Plain.f at h
  split at h
  · rename_i hs
    exact plain_core a0 r w hs (Option.some.inj h).symm
  · cases h
end Go.Proofs.YtbngfhlciebeeaaDoor.L
end
section
namespace Go.Proofs.YtbngfhlciebeeaaDoor.Sp
set_option linter.unusedVariables false
set_option linter.unusedSimpArgs false
open Go.RowKit Go.Proofs.YtbngfhlciebeeaaDoor.L
def smallB (c : UInt8) : Bool := decide (97 ≤ c.toNat) && decide (c.toNat ≤ 122)
def innerB (c : UInt8) : Bool := smallB c || isDigit c || c.toNat == 95
def noQuoteB (c : UInt8) : Bool := c.toNat != 39
def blankB (c : UInt8) : Bool := c.toNat == 32
def pend (p : UInt8 → Bool) (L : List UInt8) (i : Nat) : Nat := i + ((L.drop i).takeWhile p).length
def cut (L : List UInt8) (i j : Nat) : List UInt8 := (L.take j).drop i
theorem drop_at {L : List UInt8} {i : Nat} (h : i < L.length) : L.drop i = L.getD i 0 :: L.drop (i + 1) := by
  rw [List.drop_eq_getElem_cons h, List.getD_eq_getElem?_getD, List.getElem?_eq_getElem h]; rfl
theorem pend_step {p : UInt8 → Bool} {L : List UInt8} {i : Nat} (h : i < L.length) (hp : p (L.getD i 0) = true) : pend p L i = pend p L (i + 1) := by
  unfold pend
  rw [drop_at h, List.takeWhile_cons_of_pos hp, List.length_cons]; omega
theorem pend_stop {p : UInt8 → Bool} {L : List UInt8} {i : Nat} (h : i < L.length) (hp : p (L.getD i 0) = false) : pend p L i = i := by
  unfold pend
  rw [drop_at h, List.takeWhile_cons_of_neg (by rw [hp]; decide)]; rfl
theorem pend_end {p : UInt8 → Bool} {L : List UInt8} {i : Nat} (h : L.length ≤ i) : pend p L i = i := by
  unfold pend
  rw [List.drop_eq_nil_of_le h]; rfl
theorem le_pend (p : UInt8 → Bool) (L : List UInt8) (i : Nat) : i ≤ pend p L i := by unfold pend; omega
theorem pend_le {p : UInt8 → Bool} {L : List UInt8} {i : Nat} (h : i ≤ L.length) : pend p L i ≤ L.length := by
  unfold pend
  have := (List.takeWhile_prefix p (l := L.drop i)).length_le
  rw [List.length_drop] at this
  omega
theorem cut_length {L : List UInt8} {i j : Nat} (hj : j ≤ L.length) : (cut L i j).length = j - i := by
  unfold cut; rw [List.length_drop, List.length_take, Nat.min_eq_left hj]
structure Tk where
  kind : Int
  text : List UInt8
  n : Int
  pos : Nat
def pathGo (L : List UInt8) : Nat → Nat → Int → Option (Int × Nat)
  | 0, _, _ => none
  | f + 1, e, k =>
    if e + 1 < L.length ∧ (L.getD e 0).toNat = 46 ∧ smallB (L.getD (e + 1) 0) = true then
      if pend innerB L (e + 1) - (e + 1) > 16 then none else pathGo L f (pend innerB L (e + 1)) 2
    else some (k, e)
def tokenAt (L : List UInt8) (i : Nat) : Except Int (Int × List UInt8 × Int × Nat) :=
  if smallB (L.getD i 0) = true then
    if pend innerB L i - i > 16 then .error 15
    else match pathGo L (L.length + 1) (pend innerB L i) 1 with
      | none => .error 15
      | some (k, e) => if e - i > 32 then .error 15 else .ok (k, cut L i e, 0, e)
  else if isDigit (L.getD i 0) = true then
    if pend isDigit L i - i > 1 ∧ (L.getD i 0).toNat = 48 then .error 11
    else match numFold (cut L i (pend isDigit L i)) 0 with
      | none => .error 21
      | some n => .ok (3, cut L i (pend isDigit L i), n, pend isDigit L i)
  else if (L.getD i 0).toNat = 39 then
    if L.length ≤ pend noQuoteB L (i + 1) then .error 14
    else if pend noQuoteB L (i + 1) - (i + 1) > 48 then .error 15
    else if (cut L (i + 1) (pend noQuoteB L (i + 1))).all val_Plain.ok = true then .ok (4, cut L (i + 1) (pend noQuoteB L (i + 1)), 0, pend noQuoteB L (i + 1) + 1)
    else .error 11
  else match signFind (L.drop i) with
    | some g => .ok (5, g, 0, i + g.length)
    | none => .error 11
def lexGo (L : List UInt8) : Nat → Nat → List Tk → List Tk × Int × Nat
  | 0, _, _ => ([], 99, 0)
  | f + 1, i, out =>
    if L.length ≤ pend blankB L i then (out, 0, 0)
    else if out.length = 120 then ([], 13, pend blankB L i)
    else match tokenAt L (pend blankB L i) with
      | .error e => ([], e, pend blankB L i)
      | .ok (k, t, n, e) => lexGo L f e (out ++ [⟨k, t, n, pend blankB L i⟩])
def lex (L : List UInt8) : List Tk × Int × Nat := lexGo L (L.length + 1) 0 []
theorem pathGo_le (L : List UInt8) : ∀ (f e : Nat) (k k' : Int) (e' : Nat), e ≤ L.length → pathGo L f e k = some (k', e') → e ≤ e' ∧ e' ≤ L.length
  | 0, _, _, _, _, _, h => by simp [pathGo] at h
  | f + 1, e, k, k', e', he, h => by
    unfold pathGo at h
    split at h
    · rename_i hc
      split at h
      · cases h
      · have := pathGo_le L f _ 2 k' e' (pend_le (by omega)) h
        have := le_pend innerB L (e + 1)
        omega
    · simp only [Option.some.injEq, Prod.mk.injEq] at h
      omega
theorem small_inner {c : UInt8} (h : smallB c = true) : innerB c = true := by unfold innerB; rw [h]; rfl
theorem signFind_mem {l g : List UInt8} (h : signFind l = some g) : g ∈ signList ∧ g.isPrefixOf l = true := ⟨List.mem_of_find?_eq_some h, by have := List.find?_some h; simpa using this⟩
theorem sign_pos {g : List UInt8} (h : g ∈ signList) : 0 < g.length ∧ g.length ≤ 2 := by
  revert g; decide
theorem tokenAt_le {L : List UInt8} {i : Nat} (hi : i < L.length) {k : Int} {t : List UInt8} {n : Int} {e : Nat} (h : tokenAt L i = .ok (k, t, n, e)) : i < e ∧ e ≤ L.length := by
  unfold tokenAt at h
  split at h
  · rename_i hs
    split at h
    · cases h
    · split at h
      · cases h
      · rename_i k' e' hp
        split at h
        · cases h
        · have h1 := pathGo_le L _ _ _ _ _ (pend_le (by omega)) hp
          have h2 := pend_step (p := innerB) hi (small_inner hs)
          have h3 := le_pend innerB L (i + 1)
          simp only [Except.ok.injEq, Prod.mk.injEq] at h
          omega
  · split at h
    · rename_i hd
      have h2 := pend_step (p := isDigit) hi hd
      have h3 := le_pend isDigit L (i + 1)
      have h4 := pend_le (p := isDigit) (L := L) (i := i) (by omega)
      split at h
      · cases h
      · split at h
        · cases h
        · simp only [Except.ok.injEq, Prod.mk.injEq] at h
          omega
    · split at h
      · have h3 := le_pend noQuoteB L (i + 1)
        have h4 := pend_le (p := noQuoteB) (L := L) (i := i + 1) (by omega)
        split at h
        · cases h
        · split at h
          · cases h
          · split at h
            · simp only [Except.ok.injEq, Prod.mk.injEq] at h
              omega
            · cases h
      · split at h
        · rename_i g hg
          have h1 := sign_pos (signFind_mem hg).1
          have h2 := (List.isPrefixOf_iff_prefix.1 (signFind_mem hg).2).length_le
          rw [List.length_drop] at h2
          simp only [Except.ok.injEq, Prod.mk.injEq] at h
          omega
        · cases h
end Go.Proofs.YtbngfhlciebeeaaDoor.Sp
end
section
namespace Go.Proofs.YtbngfhlciebeeaaDoor.Sp
set_option linter.unusedVariables false
set_option linter.unusedSimpArgs false
open Go.RowKit Go.Proofs.YtbngfhlciebeeaaDoor.L Go.Proofs.YtbngfhlciebeeaaDoorW.PrintWords
def Ev {α : Type} (g : Nat → Option α) (r : α) : Prop := ∃ K, ∀ k, K ≤ k → g k = some r
theorem Ev.const {α : Type} {g : Nat → Option α} {r : α} (h : ∀ k, g k = some r) : Ev g r := ⟨0, fun k _ => h k⟩
theorem Ev.succ {α : Type} {g : Nat → Option α} {r : α} (h : Ev (fun k => g (k + 1)) r) : Ev g r := by
  obtain ⟨K, h⟩ := h
  refine ⟨K + 1, fun k hk => ?_⟩
  obtain ⟨m, rfl⟩ : ∃ m, k = m + 1 := ⟨k - 1, by omega⟩
  exact h m (by omega)
theorem Ev.bind {α β : Type} {g : Nat → Option α} {f : Nat → α → Option β} {a : α} {r : β} (h : Ev g a) (h2 : Ev (fun k => f k a) r) : Ev (fun k => (g k).bind (f k)) r := by
  obtain ⟨K, h⟩ := h
  obtain ⟨K2, h2⟩ := h2
  exact ⟨max K K2, fun k hk => by show (g k).bind (f k) = _; rw [h k (by omega)]; exact h2 k (by omega)⟩
theorem Ev.congr {α : Type} {g g' : Nat → Option α} {r : α} (h : Ev g' r) (e : ∀ k, g k = g' k) : Ev g r := by
  obtain ⟨K, h⟩ := h
  exact ⟨K, fun k hk => (e k).trans (h k hk)⟩
theorem Ev.get {α : Type} {g : Nat → Option α} {r : α} (h : Ev g r) : ∃ k, g k = some r := by
  obtain ⟨K, h⟩ := h
  exact ⟨K, h K (Nat.le_refl _)⟩
theorem Ev.pos {α : Type} {c : Prop} [Decidable c] {g g' : Nat → Option α} {r : α} (hc : c) (h : Ev g r) : Ev (fun k => if c then g k else g' k) r := h.congr (fun k => if_pos hc)
theorem Ev.neg {α : Type} {c : Prop} [Decidable c] {g g' : Nat → Option α} {r : α} (hc : ¬ c) (h : Ev g' r) : Ev (fun k => if c then g k else g' k) r := h.congr (fun k => if_neg hc)
theorem Ev.some {α : Type} {a r : α} (h : a = r) : Ev (fun _ => Option.some a) r := Ev.const (fun _ => by rw [h])
theorem Ev.bind_some {α β : Type} {o : Option α} {f : Nat → α → Option β} {a : α} {r : β} (h : o = Option.some a) (h2 : Ev (fun k => f k a) r) : Ev (fun k => o.bind (f k)) r := h2.congr (fun k => by show o.bind (f k) = _; rw [h]; rfl)
theorem wrap_at {x : Int} (h0 : -9223372036854775808 ≤ x) (h1 : x ≤ 9223372036854775807) : wrap64 x = x := by unfold wrap64; omega
theorem bt_nat (s : ByteArray) (i : Nat) (h : i < s.size) : bt s (i : Int) = ((s.data.toList.getD i 0).toNat : Int) := by
  unfold bt
  rw [dif_pos (by simpa using h), ← byte_at s i h]
  simp
theorem len_size (s : ByteArray) : s.data.toList.length = s.size := data_length s
theorem ext_bytes {a b : ByteArray} (h : a.data.toList = b.data.toList) : a = b := by
  obtain ⟨⟨x⟩⟩ := a
  obtain ⟨⟨y⟩⟩ := b
  simp at h
  rw [h]
theorem ext_list (s : ByteArray) (i j : Nat) : s.extract i j = ⟨(cut s.data.toList i j).toArray⟩ := ext_bytes (by rw [extract_list]; rfl)
theorem size_mk (l : List UInt8) : (⟨l.toArray⟩ : ByteArray).size = l.length := by rw [← len_size]
theorem mk_append (a b : List UInt8) : (⟨a.toArray⟩ : ByteArray) ++ ⟨b.toArray⟩ = ⟨(a ++ b).toArray⟩ := ext_bytes (by
  rw [ByteArray.data_append]; simp)
theorem eq_lists (a b : ByteArray) : (a.toList == b.toList) = decide (a = b) := by
  rw [ByteArray.toList_eq, ByteArray.toList_eq]
  by_cases h : a = b
  · subst h; simp
  · rw [decide_eq_false h, beq_eq_false_iff_ne]
    exact fun e => h (ext_bytes e)
end Go.Proofs.YtbngfhlciebeeaaDoor.Sp
end
section
namespace Go.Proofs.YtbngfhlciebeeaaDoor.L
open Go.RowKit Go.Proofs.YtbngfhlciebeeaaDoorW.PrintWords Go.Proofs.YtbngfhlciebeeaaDoorW.PrintLast Go.Proofs.YtbngfhlciebeeaaDoorW.PrintMore
attribute [local go_sem] max2_int min2_int max_two min_two max_three min_three max_four min_four   -- for this text's walks alone
set_option linter.unusedVariables false
set_option linter.unusedSimpArgs false
def tok_reader_word.f (k : Nat) (s0_0 : ByteArray) (s0_1 : Int) : Option (ByteArray × ByteArray × Int) := (tok_reader_while_word.f k s0_0 s0_1).bind fun bt104 => (some (bt104.1, bt104.2.1, bt104.2.2))
set_option maxHeartbeats 8000000 in
set_option maxRecDepth 100000 in
theorem tok_reader_word.calls (k : Nat) (g : Nat) (s0_0 : ByteArray) (s0_1 : Int) (r1 : ByteArray) (r2 : ByteArray) (r3 : Int) (w0 w : World) (hI : IsS122 w0 w g s0_0 s0_1) (hB : Below w0.heap.size w0 w) (h : tok_reader_word.f k s0_0 s0_1 = some (r1, r2, r3)) :
  Calls Tryd.prog 132 #[.pointer (some ⟨g, 0, none⟩)] w fun e w' => e = .returned (.string r1) ∧ IsS122 w0 w' g r2 r3 ∧ Below w0.heap.size w0 w' ∧ KeepBut w w' g none := by
 have HI0 := Aside0.mk hI
 have HK := Aside0.mk (KeepBut.refl w g none)
 have HL := Aside0.mk hB.size
 clear hI
 have HW0 := Aside0.mk hB.size
 have HB := Aside0.mk hB
 clear hB
 have H : ((tok_reader_while_word.f k s0_0 s0_1).bind fun bt104 => (some (bt104.1, bt104.2.1, bt104.2.2))) = some (r1, r2, r3) := h
 clear h
 replace H := Option.bind_eq_some_iff.mp H
 obtain ⟨⟨t104, t105, t106⟩, A20, H⟩ := H
 (try dsimp -simprocs only at H)
 have A2 := Aside0.mk A20
 clear A20
 simp only [Option.some.injEq, Prod.mk.injEq] at H
 obtain ⟨rfl, rfl, rfl⟩ := H
 go_enter Tryd.func132, Tryd.ntmps132
 go_wp2_with (first | ((with_reducible refine gc 67 rfl ?_); refine gl (some 4) #[.pointer (some ⟨g, 0, none⟩), .func (.func 152) #[] #[]] Tryd.func67 ?_; (with_reducible refine (tok_reader_while_word.calls k g s0_0 s0_1 t104 t105 t106 w0 _ ?side1 ?side2 A2.out).mono ?_); (case side1 => exact qI); (case side2 => exact qB); rintro e w3 ⟨rfl, hi, hb, hk⟩; refine ⟨_, rfl, ?_⟩; replace HI0 := Aside0.mk (hi); replace HK := Aside0.mk (KeepBut.trans (w := w) qH hk (.inl rfl)); replace HB := Aside0.mk (hb); (try clear hb); (try clear hk); (try clear hi)))
 go_ret
 exact ⟨qR, qI, qB, qH⟩
end Go.Proofs.YtbngfhlciebeeaaDoor.L
end
