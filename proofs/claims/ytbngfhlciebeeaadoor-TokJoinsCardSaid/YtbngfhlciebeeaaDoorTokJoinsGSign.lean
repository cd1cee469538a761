/- Printed and hand-written steps towards the row (TokJoins), those that it reaches. -/
import Derived.Test.YtbngfhlciebeeaaDoorTokJoinsLxf133
import Derived.Test.YtbngfhlciebeeaaDoorTokJoinsGNumber
import Derived.LoopTactic
import Derived.Laws.Rows
namespace Go.Proofs.YtbngfhlciebeeaaDoor.L
set_option linter.unusedVariables false
set_option linter.unusedSimpArgs false
open Go.RowKit Go.Proofs.YtbngfhlciebeeaaDoorW.PrintWords Go.Proofs.YtbngfhlciebeeaaDoorW.PrintLast Go.Proofs.YtbngfhlciebeeaaDoorW.PrintMore
def signFind (l : List UInt8) : Option (List UInt8) := signList.find? fun g => g.isPrefixOf l
def tok_reader_sign.f (s0_0 : ByteArray) (s0_1 : Int) : Option (Int × ByteArray × Int × Int × Int × ByteArray × Int) :=
  if 0 ≤ s0_1 ∧ s0_1 ≤ s0_0.size ∧ s0_0.size ≤ 140737488351232 then
    match signFind (s0_0.data.toList.drop s0_1.toNat) with
    | some g => some (5, ⟨g.toArray⟩, 0, 0, 0, s0_0, s0_1 + g.length)
    | none => some (0, ⟨#[]⟩, 0, 0, 11, s0_0, s0_1)
  else none
theorem index_sign (W : World) (k : Nat) (hk : k < 15) : (Instr.index 187 (.agg #[.string ⟨#[60, 61]⟩, .string ⟨#[62, 61]⟩, .string ⟨#[33, 61]⟩, .string ⟨#[40]⟩, .string ⟨#[41]⟩, .string ⟨#[59]⟩, .string ⟨#[58]⟩, .string ⟨#[43]⟩, .string ⟨#[45]⟩, .string ⟨#[42]⟩, .string ⟨#[47]⟩, .string ⟨#[37]⟩, .string ⟨#[60]⟩, .string ⟨#[62]⟩, .string ⟨#[61]⟩]) (.int .i64 (k : Int))).run Tryd.prog W = .ok (.string ⟨(signList.getD k []).toArray⟩) W := by
  have h : k = 0 ∨ k = 1 ∨ k = 2 ∨ k = 3 ∨ k = 4 ∨ k = 5 ∨ k = 6 ∨ k = 7 ∨ k = 8 ∨ k = 9 ∨ k = 10 ∨ k = 11 ∨ k = 12 ∨ k = 13 ∨ k = 14 := by omega
  clear hk
  rcases h with h | h | h | h | h | h | h | h | h | h | h | h | h | h | h <;> (subst h; show _ = _; kernel_rfl)
theorem isPrefixOf_take : ∀ (G L : List UInt8), G.isPrefixOf L = (decide (G.length ≤ L.length) && (L.take G.length == G))
  | [], L => by simp
  | a :: G, [] => by simp
  | a :: G, b :: L => by
    rw [List.isPrefixOf, isPrefixOf_take G L]
    simp only [List.length_cons, List.take_succ_cons, Nat.add_le_add_iff_right]
    rw [show ((b :: L.take G.length) == (a :: G)) = (b == a && (L.take G.length == G)) from rfl]
    rw [show (a == b) = (b == a) from Bool.beq_comm]
    cases b == a <;> simp
theorem extract_list (s : ByteArray) (i j : Nat) : (s.extract i j).data.toList = (s.data.toList.take j).drop i := by
  rw [ByteArray.data_extract, Array.toList_extract, List.extract_eq_take_drop, List.drop_take]
theorem hasPrefix_at (s : ByteArray) (i : Int) (G : List UInt8) (h0 : 0 ≤ i) (h1 : i ≤ s.size) : strings_HasPrefix.f (s.extract i.toNat s.size) ⟨G.toArray⟩ = some (G.isPrefixOf (s.data.toList.drop i.toNat)) := by
  have hl : s.data.toList.length = s.size := data_length s
  have hE : (s.extract i.toNat s.size).data.toList = s.data.toList.drop i.toNat := by rw [extract_list, List.take_of_length_le (by omega)]
  have hs : (s.extract i.toNat s.size).size = (s.data.toList.drop i.toNat).length := by rw [← data_length, hE]
  have hG : (⟨G.toArray⟩ : ByteArray).size = G.length := by rw [← data_length]
  unfold strings_HasPrefix.f stringslite_HasPrefix.f
  rw [hs, hG, isPrefixOf_take]
  by_cases h : G.length ≤ (s.data.toList.drop i.toNat).length
  · rw [if_pos (by exact_mod_cast h), if_pos (by omega), if_pos (by exact_mod_cast h)]
    simp only [Option.bind_some, Int.toNat_natCast, ByteArray.toList_eq, extract_list, List.drop_zero]
    rw [List.take_of_length_le (l := s.data.toList) (by omega), decide_eq_true h]; rfl
  · rw [if_neg (by exact_mod_cast h)]
    simp only [Option.bind_some]
    rw [decide_eq_false h]; rfl
theorem find_pos (G L : List UInt8) (l : List (List UInt8)) (h : G.isPrefixOf L = true) : (G :: l).find? (fun g => g.isPrefixOf L) = some G := by simp [List.find?, h]
theorem find_neg (G L : List UInt8) (l : List (List UInt8)) (h : G.isPrefixOf L = false) : (G :: l).find? (fun g => g.isPrefixOf L) = l.find? (fun g => g.isPrefixOf L) := by simp [List.find?, h]
theorem sign_short (m : Nat) : (signList.getD m []).length ≤ 2 := by
  by_cases h : m < 15
  · exact (show ∀ m, m < 15 → (signList.getD m []).length ≤ 2 by decide) m h
  · rw [List.getD_eq_getElem?_getD, List.getElem?_eq_none (by simp [signList]; omega)]; simp
set_option maxHeartbeats 2000000 in
set_option maxRecDepth 100000 in
theorem sign_core (g : Nat) (s : ByteArray) (i : Int) (r1 : Int) (r2 : ByteArray) (r3 r4 r5 : Int) (r6 : ByteArray) (r7 : Int) (w0 w : World) (hI : IsS122 w0 w g s i) (hB : Below w0.heap.size w0 w) (hL : Laid w)
    (h0 : 0 ≤ i) (h1 : i ≤ s.size) (h2 : s.size ≤ 140737488351232)
    (h : (match signFind (s.data.toList.drop i.toNat) with | some g => some (5, (⟨g.toArray⟩ : ByteArray), (0 : Int), (0 : Int), (0 : Int), s, i + g.length) | none => some (0, ⟨#[]⟩, 0, 0, 11, s, i)) = some (r1, r2, r3, r4, r5, r6, r7)) :
    Calls Tryd.prog 107 #[.pointer (some ⟨g, 0, none⟩)] w fun e w' => e = .returned (.tuple #[.agg #[.int .i64 r1, .string r2, .int .i64 r3, .int .i64 r4], .int .i64 r5]) ∧ IsS122 w0 w' g r6 r7 ∧ Below w0.heap.size w0 w' ∧ KeepBut w w' g none := by
  have HH := Aside0.mk h
  have HI := Aside0.mk hI
  have HB := Aside0.mk hB
  obtain ⟨tv, fr, hv⟩ := hL
  have HV := Aside0.mk hv
  clear h hI hB hv
  have hix := index_sign
  go_enter Tryd.func107, Tryd.ntmps107
  go_wp2_with (refine wpList_load_row rfl 187 _ rfl 0 rfl tv _ fr _ (blk_alloc HV.out _) Tryd.underlying187 rfl (by kernel_rfl) ?_)
  have HX := Aside0.mk hix
  clear hix
  generalize (Value.agg #[.string ⟨#[60, 61]⟩, .string ⟨#[62, 61]⟩, .string ⟨#[33, 61]⟩, .string ⟨#[40]⟩, .string ⟨#[41]⟩, .string ⟨#[59]⟩, .string ⟨#[58]⟩, .string ⟨#[43]⟩, .string ⟨#[45]⟩, .string ⟨#[42]⟩, .string ⟨#[47]⟩, .string ⟨#[37]⟩, .string ⟨#[60]⟩, .string ⟨#[62]⟩, .string ⟨#[61]⟩]) = SA at HX ⊢
  have HI1 := Aside0.mk (HI.out.alloc (.cells #[.int .i64 0, .string ⟨#[]⟩, .int .i64 0, .int .i64 0] 32))
  have HB1 := Aside0.mk (below_alloc HB.out (.cells #[.int .i64 0, .string ⟨#[]⟩, .int .i64 0, .int .i64 0] 32))
  have HG1 := Aside0.mk (heap_alloc_new w (.cells #[.int .i64 0, .string ⟨#[]⟩, .int .i64 0, .int .i64 0] 32))
  have HK1 := Aside0.mk (keep_alloc (KeepBut.refl w g none) (.cells #[.int .i64 0, .string ⟨#[]⟩, .int .i64 0, .int .i64 0] 32))
  generalize hw1 : w.alloc (.cells #[.int .i64 0, .string ⟨#[]⟩, .int .i64 0, .int .i64 0] 32) = w1 at HI1 HB1 HG1 HK1 ⊢
  have HW1 := Aside0.mk hw1
  clear hw1
  go_loopw [7] (fun v wr => ∃ (m n : Nat), m ≤ 15 ∧ v = .int .i64 m ∧ wr = w1.drewN n ∧ Aside0 (signList.find? (fun g => g.isPrefixOf (s.data.toList.drop i.toNat)) = (signList.drop m).find? (fun g => g.isPrefixOf (s.data.toList.drop i.toNat)))) (fun v _ => 15 - (intOf v).toNat)
  case atStart => exact ⟨0, 0, by omega, rfl, rfl, ⟨rfl⟩⟩
  case round =>
    obtain ⟨m, n, hm, rfl, rfl, hF⟩ := hrel
    by_cases hlt : m < 15
    · have hx : ∀ W, (Instr.index 187 SA (.int .i64 (m : Int))).run Tryd.prog W = .ok (.string ⟨(signList.getD m []).toArray⟩) W := fun W => HX.out W m hlt
      generalize hG : signList.getD m [] = G at hx
      have HG := Aside0.mk hG
      clear hG
      have hI2 := HI1.out
      obtain ⟨hgb, hgs⟩ := hI2
      have hc0 := cellS122_0 hgb
      have hc1 := cellS122_1 hgb
      have hf0 := blk_frozen hgb 0
      have hf1 := blk_frozen hgb 1
      clear hgb hgs
      have HP := Aside0.mk (hasPrefix_at s i G h0 h1)
      cases hb : G.isPrefixOf (s.data.toList.drop i.toNat) with
      | true =>
        rw [hb] at HP
        have hGl : signList.drop m = G :: signList.drop (m + 1) := by
          rw [List.drop_eq_getElem_cons (by simpa [signList] using hlt), ← HG.out, List.getD_eq_getElem?_getD, List.getElem?_eq_getElem (by simpa [signList] using hlt)]
          rfl
        have h := HH.out
        unfold signFind at h
        rw [hF.out, hGl, find_pos _ _ _ hb] at h
        simp only [Option.some.injEq, Prod.mk.injEq] at h
        clear hGl hF HH hb
        obtain ⟨rfl, rfl, rfl, rfl, rfl, rfl, rfl⟩ := h
        have hlen : (G.length : Int) ≤ 2 := by rw [← HG.out]; exact_mod_cast sign_short m
        have hn1 : g ≠ w.heap.size := Nat.ne_of_lt (IsS122.lt HI.out)
        have hn2 : w.heap.size ≠ g := Ne.symm hn1
        have d0 := blk_cell HG1.out 0
        have d1 := blk_cell HG1.out 1
        have d2 := blk_cell HG1.out 2
        have d3 := blk_cell HG1.out 3
        have e0 := blk_frozen HG1.out 0
        have e1 := blk_frozen HG1.out 1
        have e2 := blk_frozen HG1.out 2
        have e3 := blk_frozen HG1.out 3
        simp at d0 d1 d2 d3
        go_wp2
        go_quiet (first | (go_at_call 134; (with_reducible refine (strings_HasPrefix.calls _ _ true _ HP.out).mono ?_); rintro e w' ⟨rfl, ⟨nd, rfl⟩⟩; (try first | exact ⟨rfl, _, World.drewN_drewN _ _ _⟩ | exact ⟨rfl, _, Eq.trans (World.drewN_drewN _ _ _) (congrArg (World.drewN _) (Nat.add_assoc _ _ _))⟩)))
        go_wp2
        exact number_end rfl (cs := #[.int .i64 0, .string ⟨#[]⟩, .int .i64 0, .int .i64 0]) (blk_far HG1.out hn2 _) ((HI1.out.drewN _).set_1 _) (IsS122.lt HI.out) (below_set (pw_below_drewN HB1.out _) (IsS122.ge HI.out)) HB.out.size (KeepBut.set_ (keep_drewN HK1.out _) _ _) rfl ⟨rfl, rfl, rfl⟩
      | false =>
        rw [hb] at HP
        have hGl : signList.drop m = G :: signList.drop (m + 1) := by
          rw [List.drop_eq_getElem_cons (by simpa [signList] using hlt), ← HG.out, List.getD_eq_getElem?_getD, List.getElem?_eq_getElem (by simpa [signList] using hlt)]
          rfl
        have hF2 := Aside0.mk (hF.out.trans (by rw [hGl, find_neg _ _ _ hb] : _ = (signList.drop (m + 1)).find? (fun g => g.isPrefixOf (s.data.toList.drop i.toNat))))
        clear hGl hF hb
        go_wp2
        go_quiet (first | (go_at_call 134; (with_reducible refine (strings_HasPrefix.calls _ _ false _ HP.out).mono ?_); rintro e w' ⟨rfl, ⟨nd, rfl⟩⟩; (try first | exact ⟨rfl, _, World.drewN_drewN _ _ _⟩ | exact ⟨rfl, _, Eq.trans (World.drewN_drewN _ _ _) (congrArg (World.drewN _) (Nat.add_assoc _ _ _))⟩)))
        go_wp2
        go_roundw
        case rel => exact ⟨m + 1, _, by omega, by go_num, rfl, hF2⟩
        case measure => simp [intOf]; omega
    · have hm15 : m = 15 := by omega
      have h := HH.out
      unfold signFind at h
      rw [hF.out, hm15] at h
      simp only [signList, List.drop_succ_cons, List.drop_zero, List.find?_nil, Option.some.injEq, Prod.mk.injEq] at h
      clear hF HH hm15
      obtain ⟨rfl, rfl, rfl, rfl, rfl, rfl, rfl⟩ := h
      have d0 := blk_cell HG1.out 0
      have d1 := blk_cell HG1.out 1
      have d2 := blk_cell HG1.out 2
      have d3 := blk_cell HG1.out 3
      have e0 := blk_frozen HG1.out 0
      have e1 := blk_frozen HG1.out 1
      have e2 := blk_frozen HG1.out 2
      have e3 := blk_frozen HG1.out 3
      simp at d0 d1 d2 d3
      go_wp2
      exact number_end rfl (cs := #[.int .i64 0, .string ⟨#[]⟩, .int .i64 0, .int .i64 0]) (W := w1.drewN n) HG1.out (HI1.out.drewN _) (IsS122.lt HI.out) (pw_below_drewN HB1.out _) HB.out.size (keep_drewN HK1.out _) rfl ⟨rfl, rfl, rfl⟩
theorem tok_reader_sign.calls (g : Nat) (s0_0 : ByteArray) (s0_1 : Int) (r1 : Int) (r2 : ByteArray) (r3 r4 r5 : Int) (r6 : ByteArray) (r7 : Int) (w0 w : World) (hI : IsS122 w0 w g s0_0 s0_1) (hB : Below w0.heap.size w0 w) (hL : Laid w0) (h : tok_reader_sign.f s0_0 s0_1 = some (r1, r2, r3, r4, r5, r6, r7)) :
    Calls Tryd.prog 107 #[.pointer (some ⟨g, 0, none⟩)] w fun e w' => e = .returned (.tuple #[.agg #[.int .i64 r1, .string r2, .int .i64 r3, .int .i64 r4], .int .i64 r5]) ∧ IsS122 w0 w' g r6 r7 ∧ Below w0.heap.size w0 w' ∧ KeepBut w w' g none := by
  unfold tok_reader_sign.f at h
  split at h
  · rename_i hh
    exact sign_core g s0_0 s0_1 r1 r2 r3 r4 r5 r6 r7 w0 w hI hB (hL.below hB) hh.1 hh.2.1 hh.2.2 h
  · cases h
end Go.Proofs.YtbngfhlciebeeaaDoor.L
