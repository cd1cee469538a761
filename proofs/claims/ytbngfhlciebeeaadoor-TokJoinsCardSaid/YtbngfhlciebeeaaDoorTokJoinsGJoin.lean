/- Printed and hand-written steps towards the row (TokJoins), those that it reaches. -/
import Derived.Test.YtbngfhlciebeeaaDoorTokJoinsGBuild
import Derived.Test.YtbngfhlciebeeaaDoorTokJoinsShelf
namespace Go.Proofs.YtbngfhlciebeeaaDoor.L
set_option linter.unusedVariables false
set_option linter.unusedSimpArgs false
open Go.RowKit Go.Proofs.YtbngfhlciebeeaaDoorW.PrintWords Go.Proofs.YtbngfhlciebeeaaDoorW.PrintLast Go.Proofs.YtbngfhlciebeeaaDoorW.PrintMore
def tok_Join.part (t : S32) : List UInt8 := if t.f0 = 4 then [39] ++ t.f1.data.toList ++ [39] else t.f1.data.toList
def tok_Join.outs : Nat → List S32 → List UInt8
  | _, [] => []
  | i, t :: ts => (if 0 < i then [32] else []) ++ (tok_Join.part t ++ tok_Join.outs (i + 1) ts)
def tok_Join.f (l : List S32) : Option ByteArray := if (tok_Join.outs 0 l).length ≤ 140737488355328 then some ⟨(tok_Join.outs 0 l).toArray⟩ else none
theorem heap_new (w : World) (o : Obj) : (w.alloc o).heap[w.heap.size]? = some o := (Go.MapKept.heap_alloc w o).1
theorem bd_kept {b : Nat} {bs : List Value} {w w' : World} (h : Bd b bs w w') {k : Nat} {c : Array Value} {t : TypeId} (hk : w.heap[k]? = some (.cells c t)) (hkb : k ≠ b) (ht : t ≠ 5) : w'.heap[k]? = some (.cells c t) :=
  h.2.2 k _ hk (fun e => hkb (Option.some.inj e)) (fun c fz e => ht (by cases e; rfl))
theorem str_bytes (s : ByteArray) : Lib.strCells s = Lib.byteCells s.data.toList := rfl
theorem str_quoted (s : ByteArray) : Lib.strCells (((⟨#[39]⟩ : ByteArray) ++ s) ++ (⟨#[39]⟩ : ByteArray)) = Lib.byteCells ([39] ++ s.data.toList ++ [39]) := by
  show Lib.byteCells (((⟨#[39]⟩ : ByteArray) ++ s) ++ (⟨#[39]⟩ : ByteArray)).data.toList = _
  rw [ByteArray.data_append, ByteArray.data_append]
  simp
set_option maxHeartbeats 8000000 in
set_option maxRecDepth 100000 in
theorem tok_Join.calls (A0 : Option Addr) (c0 : Nat) (l0 : List S32) (r : ByteArray) (w : World) (hr0 : Kd.C k32 w A0 l0.length l0) (hc0 : l0.length ≤ c0) (h : tok_Join.f l0 = some r) :
    Calls Tryd.prog 30 #[.slice A0 l0.length c0] w fun e w' => e = .returned (.string r) ∧ Below w.heap.size w w' := by
  unfold tok_Join.f at h
  split at h
  · rename_i hlen
    obtain rfl := Option.some.inj h
    clear h
    have HR0 := Aside0.mk hr0
    have HN := hr0.2.1
    clear hr0
    have HBF := Aside0.mk (Lib.IsBuilderF.of (Lib.fresh_isBuilder 133 5 w))
    have HB0 := Aside0.mk ((Below.refl w.heap.size w).alloc (Nat.le_refl _) (.cells #[.pointer none, .slice none 0 0] 133))
    go_enter Tryd.func30, Tryd.ntmps30
    go_wp2
    go_loopg [8] l0.length (fun kq v8 w' => ∃ (i : Nat) (acc : List UInt8), v8 = .int .i64 (i : Int) ∧ Aside0 (kq = l0.length - i) ∧ Aside0 (i ≤ l0.length) ∧ Aside0 (acc ++ tok_Join.outs i (l0.drop i) = tok_Join.outs 0 l0) ∧ Aside0 (Lib.IsBuilderF 133 5 w.heap.size w.heap.size (Lib.byteCells acc) w') ∧ Aside0 (Below w.heap.size w w'))
    case atStart => exact ⟨0, [], rfl, ⟨rfl⟩, ⟨Nat.zero_le _⟩, ⟨rfl⟩, HBF, HB0⟩
    case round =>
      obtain ⟨i, acc, rfl, hk, hi, hacc, HI, HB⟩ := hrel
      clear HBF HB0
      by_cases hl : i < l0.length
      · have c1 : decide ((i : Int) < (l0.length : Int)) = true := decide_eq_true (by omega)
        obtain ⟨ad, eA, g0, g1, g2, g3⟩ := at_T32 (Kd.C_below HR0.out HB.out) (i : Int) (by omega) (by omega)
        subst eA
        rw [Int.toNat_natCast] at g0 g1 g2 g3
        have ht : l0.drop i = rd_T32 l0 (i : Int) :: l0.drop (i + 1) := by
          unfold rd_T32
          rw [Int.toNat_natCast, List.drop_eq_getElem_cons hl, List.getD_eq_getElem?_getD, List.getElem?_eq_getElem hl]; rfl
        have htot := hacc.out
        rw [ht] at htot
        simp only [tok_Join.outs] at htot
        have hIa := HI.out.alloc (.cells #[.int .i64 (rd_T32 l0 (i : Int)).f0, .string (rd_T32 l0 (i : Int)).f1, .int .i64 (rd_T32 l0 (i : Int)).f2, .int .i64 (rd_T32 l0 (i : Int)).f3] 32)
        have hBa := HB.out.alloc HB.out.size (.cells #[.int .i64 (rd_T32 l0 (i : Int)).f0, .string (rd_T32 l0 (i : Int)).f1, .int .i64 (rd_T32 l0 (i : Int)).f2, .int .i64 (rd_T32 l0 (i : Int)).f3] 32)
        have hka := heap_new wr (.cells #[.int .i64 (rd_T32 l0 (i : Int)).f0, .string (rd_T32 l0 (i : Int)).f1, .int .i64 (rd_T32 l0 (i : Int)).f2, .int .i64 (rd_T32 l0 (i : Int)).f3] 32)
        have hbl : w.heap.size < wr.heap.size := HI.out.elim (fun h => h.lt) (fun h => h.lt)
        by_cases h0 : 0 < i
        · have c2 : decide ((i : Int) > 0) = true := decide_eq_true (by omega)
          rw [if_pos h0] at htot
          have hl1 := congrArg List.length htot
          simp only [List.length_append, List.length_cons, List.length_nil] at hl1
          go_wp2_with (go_at_call 72; refine (bd_byte w.heap.size (Lib.byteCells acc) 32 _ hIa (by rw [Lib.byteCells_length]; omega)).mono ?_)
          rintro e W1 ⟨rfl, hb1⟩
          have hI1 : Lib.IsBuilderF 133 5 w.heap.size w.heap.size (Lib.byteCells (acc ++ [32])) W1 := by rw [Lib.byteCells_append]; exact Or.inr hb1.1
          have hk1 := bd_kept hb1 hka (by omega) (by decide)
          clear hka hIa
          have d0 : W1.cell? ⟨wr.heap.size, 0, none⟩ = some (.int .i64 (rd_T32 l0 (i : Int)).f0) := by rw [Lib.cell_of_heap hk1]; rfl
          have d1 : W1.cell? ⟨wr.heap.size, 1, none⟩ = some (.string (rd_T32 l0 (i : Int)).f1) := by rw [Lib.cell_of_heap hk1]; rfl
          by_cases h4 : (rd_T32 l0 (i : Int)).f0 = 4
          · have c4 : ((rd_T32 l0 (i : Int)).f0 == 4) = true := beq_iff_eq.2 h4
            have hp : tok_Join.part (rd_T32 l0 (i : Int)) = [39] ++ (rd_T32 l0 (i : Int)).f1.data.toList ++ [39] := if_pos h4
            clear h4
            rw [hp] at htot
            have hll := congrArg List.length htot
            simp only [List.length_append, List.length_cons, List.length_nil, data_length] at hll
            have e1 : (9223372036854775807 < 1 + (rd_T32 l0 (i : Int)).f1.size) = False := eq_false (by omega)
            have e2 : (9223372036854775807 < (1 + (rd_T32 l0 (i : Int)).f1.size) + 1) = False := eq_false (by omega)
            have e3 : (1 + (rd_T32 l0 (i : Int)).f1.size ≤ 9223372036854775807) = True := eq_true (by omega)
            have e4 : ((1 + (rd_T32 l0 (i : Int)).f1.size) + 1 ≤ 9223372036854775807) = True := eq_true (by omega)
            have hz : (((⟨#[39]⟩ : ByteArray) ++ (rd_T32 l0 (i : Int)).f1) ++ (⟨#[39]⟩ : ByteArray)).size = 1 + (rd_T32 l0 (i : Int)).f1.size + 1 := by rw [ByteArray.size_append, ByteArray.size_append]; rfl
            go_wp2_with (first | (go_at_call 72; fail) | (go_at_call 73; refine (bd_text w.heap.size (Lib.byteCells (acc ++ [32])) (((⟨#[39]⟩ : ByteArray) ++ (rd_T32 l0 (i : Int)).f1) ++ (⟨#[39]⟩ : ByteArray)) _ hI1 (by rw [Lib.byteCells_length]; rw [hz]; simp only [List.length_append, List.length_cons, List.length_nil]; omega)).mono ?_))
            rintro e W2 ⟨rfl, hb2⟩
            go_wp2
            go_roundg (l0.length - (i + 1))
            case rel =>
              refine ⟨i + 1, (acc ++ [32]) ++ tok_Join.part (rd_T32 l0 (i : Int)), ?_, ⟨rfl⟩, ⟨by omega⟩, ⟨?_⟩, ⟨?_⟩, ⟨?_⟩⟩
              · rfl
              · rw [hp, ← htot]; simp [List.append_assoc]
              · rw [Lib.byteCells_append, hp]; refine Or.inr ?_; have := hb2.1; rwa [show Lib.strCells (((⟨#[39]⟩ : ByteArray) ++ (rd_T32 l0 (i : Int)).f1) ++ (⟨#[39]⟩ : ByteArray)) = Lib.byteCells ([39] ++ (rd_T32 l0 (i : Int)).f1.data.toList ++ [39]) from str_quoted _] at this
              · exact (hBa.trans hb1.2.1).trans hb2.2.1
            case measure => have := hk.out; omega
          · have c4 : ((rd_T32 l0 (i : Int)).f0 == 4) = false := beq_eq_false_iff_ne.2 h4
            have hp : tok_Join.part (rd_T32 l0 (i : Int)) = (rd_T32 l0 (i : Int)).f1.data.toList := if_neg h4
            clear h4
            rw [hp] at htot
            have hll := congrArg List.length htot
            simp only [List.length_append, List.length_cons, List.length_nil, data_length] at hll
            go_wp2_with (first | (go_at_call 72; fail) | (go_at_call 73; refine (bd_text w.heap.size (Lib.byteCells (acc ++ [32])) (rd_T32 l0 (i : Int)).f1 _ hI1 (by rw [Lib.byteCells_length]; simp only [List.length_append, List.length_cons, List.length_nil]; omega)).mono ?_))
            rintro e W2 ⟨rfl, hb2⟩
            go_wp2
            go_roundg (l0.length - (i + 1))
            case rel =>
              refine ⟨i + 1, (acc ++ [32]) ++ tok_Join.part (rd_T32 l0 (i : Int)), ?_, ⟨rfl⟩, ⟨by omega⟩, ⟨?_⟩, ⟨?_⟩, ⟨?_⟩⟩
              · rfl
              · rw [hp, ← htot]; simp [List.append_assoc]
              · rw [Lib.byteCells_append, hp]; refine Or.inr ?_; have := hb2.1; rwa [show Lib.strCells (rd_T32 l0 (i : Int)).f1 = Lib.byteCells (rd_T32 l0 (i : Int)).f1.data.toList from str_bytes _] at this
              · exact (hBa.trans hb1.2.1).trans hb2.2.1
            case measure => have := hk.out; omega
        · have c2 : decide ((i : Int) > 0) = false := decide_eq_false (by omega)
          rw [if_neg h0, List.nil_append] at htot
          have d0 : (wr.alloc (.cells #[.int .i64 (rd_T32 l0 (i : Int)).f0, .string (rd_T32 l0 (i : Int)).f1, .int .i64 (rd_T32 l0 (i : Int)).f2, .int .i64 (rd_T32 l0 (i : Int)).f3] 32)).cell? ⟨wr.heap.size, 0, none⟩ = some (.int .i64 (rd_T32 l0 (i : Int)).f0) := by rw [Lib.cell_of_heap hka]; rfl
          have d1 : (wr.alloc (.cells #[.int .i64 (rd_T32 l0 (i : Int)).f0, .string (rd_T32 l0 (i : Int)).f1, .int .i64 (rd_T32 l0 (i : Int)).f2, .int .i64 (rd_T32 l0 (i : Int)).f3] 32)).cell? ⟨wr.heap.size, 1, none⟩ = some (.string (rd_T32 l0 (i : Int)).f1) := by rw [Lib.cell_of_heap hka]; rfl
          by_cases h4 : (rd_T32 l0 (i : Int)).f0 = 4
          · have c4 : ((rd_T32 l0 (i : Int)).f0 == 4) = true := beq_iff_eq.2 h4
            have hp : tok_Join.part (rd_T32 l0 (i : Int)) = [39] ++ (rd_T32 l0 (i : Int)).f1.data.toList ++ [39] := if_pos h4
            clear h4
            rw [hp] at htot
            have hll := congrArg List.length htot
            simp only [List.length_append, List.length_cons, List.length_nil, data_length] at hll
            have e1 : (9223372036854775807 < 1 + (rd_T32 l0 (i : Int)).f1.size) = False := eq_false (by omega)
            have e2 : (9223372036854775807 < (1 + (rd_T32 l0 (i : Int)).f1.size) + 1) = False := eq_false (by omega)
            have e3 : (1 + (rd_T32 l0 (i : Int)).f1.size ≤ 9223372036854775807) = True := eq_true (by omega)
            have e4 : ((1 + (rd_T32 l0 (i : Int)).f1.size) + 1 ≤ 9223372036854775807) = True := eq_true (by omega)
            have hz : (((⟨#[39]⟩ : ByteArray) ++ (rd_T32 l0 (i : Int)).f1) ++ (⟨#[39]⟩ : ByteArray)).size = 1 + (rd_T32 l0 (i : Int)).f1.size + 1 := by rw [ByteArray.size_append, ByteArray.size_append]; rfl
            go_wp2_with (first | (go_at_call 72; fail) | (go_at_call 73; refine (bd_text w.heap.size (Lib.byteCells acc) (((⟨#[39]⟩ : ByteArray) ++ (rd_T32 l0 (i : Int)).f1) ++ (⟨#[39]⟩ : ByteArray)) _ hIa (by rw [Lib.byteCells_length]; rw [hz]; omega)).mono ?_))
            rintro e W2 ⟨rfl, hb2⟩
            go_wp2
            go_roundg (l0.length - (i + 1))
            case rel =>
              refine ⟨i + 1, acc ++ tok_Join.part (rd_T32 l0 (i : Int)), ?_, ⟨rfl⟩, ⟨by omega⟩, ⟨?_⟩, ⟨?_⟩, ⟨?_⟩⟩
              · rfl
              · rw [hp, ← htot]; simp [List.append_assoc]
              · rw [Lib.byteCells_append, hp]; refine Or.inr ?_; have := hb2.1; rwa [show Lib.strCells (((⟨#[39]⟩ : ByteArray) ++ (rd_T32 l0 (i : Int)).f1) ++ (⟨#[39]⟩ : ByteArray)) = Lib.byteCells ([39] ++ (rd_T32 l0 (i : Int)).f1.data.toList ++ [39]) from str_quoted _] at this
              · exact hBa.trans hb2.2.1
            case measure => have := hk.out; omega
          · have c4 : ((rd_T32 l0 (i : Int)).f0 == 4) = false := beq_eq_false_iff_ne.2 h4
            have hp : tok_Join.part (rd_T32 l0 (i : Int)) = (rd_T32 l0 (i : Int)).f1.data.toList := if_neg h4
            clear h4
            rw [hp] at htot
            have hll := congrArg List.length htot
            simp only [List.length_append, List.length_cons, List.length_nil, data_length] at hll
            go_wp2_with (first | (go_at_call 72; fail) | (go_at_call 73; refine (bd_text w.heap.size (Lib.byteCells acc) (rd_T32 l0 (i : Int)).f1 _ hIa (by rw [Lib.byteCells_length]; omega)).mono ?_))
            rintro e W2 ⟨rfl, hb2⟩
            go_wp2
            go_roundg (l0.length - (i + 1))
            case rel =>
              refine ⟨i + 1, acc ++ tok_Join.part (rd_T32 l0 (i : Int)), ?_, ⟨rfl⟩, ⟨by omega⟩, ⟨?_⟩, ⟨?_⟩, ⟨?_⟩⟩
              · rfl
              · rw [hp, ← htot]; simp [List.append_assoc]
              · rw [Lib.byteCells_append, hp]; refine Or.inr ?_; have := hb2.1; rwa [show Lib.strCells (rd_T32 l0 (i : Int)).f1 = Lib.byteCells (rd_T32 l0 (i : Int)).f1.data.toList from str_bytes _] at this
              · exact hBa.trans hb2.2.1
            case measure => have := hk.out; omega
      · have c1 : decide ((i : Int) < (l0.length : Int)) = false := decide_eq_false (by omega)
        have hnil : l0.drop i = [] := List.drop_eq_nil_of_le (by omega)
        have htot := hacc.out
        rw [hnil] at htot
        simp only [tok_Join.outs, List.append_nil] at htot
        go_wp2_with (go_at_call 74; refine (bd_string w.heap.size w.heap.size acc _ HI.out HB.out.size).mono ?_)
        rintro e W1 ⟨rfl, _, b1, _⟩
        go_wp2
        go_ret
        subst htot
        exact ⟨rfl, HB.out.trans b1⟩
  · cases h
end Go.Proofs.YtbngfhlciebeeaaDoor.L
