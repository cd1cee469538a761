/- Printed and hand-written steps towards the row (TokJoins), those that it reaches. -/
import Derived.Test.YtbngfhlciebeeaaDoorTokJoinsLx0
import Derived.LoopTactic
namespace Go.Proofs.YtbngfhlciebeeaaDoor.L
set_option linter.unusedVariables false
set_option linter.unusedSimpArgs false
open Go.RowKit Go.Proofs.YtbngfhlciebeeaaDoorW.PrintWords Go.Proofs.YtbngfhlciebeeaaDoorW.PrintLast Go.Proofs.YtbngfhlciebeeaaDoorW.PrintMore
theorem ret_bool {a b : Bool} (h : a = b) : Ending.returned (.bool a) = .returned (.bool b) := by rw [h]
def val_Plain.ok (c : UInt8) : Bool := !(decide (c.toNat < 32) || decide (126 < c.toNat) || c.toNat == 39)
def val_Plain.f (a0 : ByteArray) : Option Bool := if a0.size ≤ 140737488351232 then some (a0.data.toList.all val_Plain.ok && decide (a0.size ≤ 48)) else none
theorem plain_ok_of {c : UInt8} (h1 : ¬ ((c.toNat : Int) < 32)) (h2 : ¬ (126 < (c.toNat : Int))) (h3 : ¬ ((c.toNat : Int) = 39)) : val_Plain.ok c = true := by
  unfold val_Plain.ok
  have a1 : decide (c.toNat < 32) = false := by simp; omega
  have a2 : decide (126 < c.toNat) = false := by simp; omega
  have a3 : (c.toNat == 39) = false := by simp; omega
  rw [a1, a2, a3]; rfl
theorem plain_bad {c : UInt8} (h : (c.toNat : Int) < 32 ∨ 126 < (c.toNat : Int) ∨ (c.toNat : Int) = 39) : val_Plain.ok c = false := by
  unfold val_Plain.ok
  rcases h with h | h | h
  · have : decide (c.toNat < 32) = true := by simp; omega
    rw [this]; rfl
  · have : decide (126 < c.toNat) = true := by simp; omega
    rw [this]; simp
  · have : (c.toNat == 39) = true := by simp; omega
    rw [this]; simp
theorem all_take_succ {l : List UInt8} {p : UInt8 → Bool} {k : Nat} (hk : k < l.length) (h : (l.take k).all p = true) (h2 : p (l.getD k 0) = true) : (l.take (k + 1)).all p = true := by
  rw [List.take_succ_eq_append_getElem hk, List.all_append, h]
  simp [List.getD_eq_getElem?_getD, hk] at h2 ⊢
  exact h2
theorem all_false_of {l : List UInt8} {p : UInt8 → Bool} {k : Nat} (hk : k < l.length) (h2 : p (l.getD k 0) = false) : l.all p = false := by
  rw [List.all_eq_false]
  refine ⟨l[k], List.getElem_mem hk, ?_⟩
  simp [List.getD_eq_getElem?_getD, hk] at h2
  simp [h2]
set_option maxHeartbeats 1000000 in
theorem plain_core (a0 : ByteArray) (r : Bool) (w : World) (hs : a0.size ≤ 140737488351232) (hr : Hid (r = (a0.data.toList.all val_Plain.ok && decide (a0.size ≤ 48)))) :
    Calls Tryd.prog 101 #[.string a0] w fun e w' => e = .returned (.bool r) ∧ Below w.heap.size w w' := by
  have kb := fun W => print_bytes (P := Tryd.prog) 9 131 5 Tryd.underlying9 Tryd.underlying131 Tryd.underlying5 a0 W
  go_enter Tryd.func101, Tryd.ntmps101
  go_wp2
  have hc : ∀ j, j < a0.size → (Lib.bytesWorld w 5 a0).cell? ⟨w.heap.size, j, none⟩ = some (.int .u8 (a0.data.toList.getD j 0).toNat) := fun j hj => Lib.bytesWorld_cell w 5 a0 j hj
  have HB := Aside0.mk (bytes_below (Below.refl w.heap.size w) (Nat.le_refl _) 5 a0)
  have HC := Aside0.mk hc
  clear hc kb
  generalize grownCap w a0.size 0 5 = cp
  generalize Lib.bytesWorld w 5 a0 = W at HB HC ⊢
  go_loop [8] (fun i => ∃ k : Nat, k ≤ a0.size ∧ i = .int .i64 k ∧ Hid ((a0.data.toList.take k).all val_Plain.ok = true)) (fun i => a0.size - (intOf i).toNat)
  case atStart => exact ⟨0, Nat.zero_le _, rfl, rfl⟩
  case round =>
    obtain ⟨k, hk, rfl, hall⟩ := hrel
    by_cases hlt : k < a0.size
    · have hcell := HC.out k hlt
      have hu : ((a0.data.toList.getD k 0).toNat : Int) < 256 := by have := (a0.data.toList.getD k 0).toNat_lt; omega
      have hl : k < a0.data.toList.length := by rw [data_length]; exact hlt
      obtain ⟨c, Hc⟩ : ∃ c, Hid (a0.data.toList.getD k 0 = c) := ⟨_, rfl⟩
      rw [Hc.out] at hcell hu
      by_cases h1 : (c.toNat : Int) < 32
      · have Hb : Hid (r = false) := by rw [hr.out, all_false_of hl (by rw [Hc.out]; exact plain_bad (.inl h1))]; rfl
        go_wp2
        go_ret
        exact ⟨ret_bool Hb.out.symm, HB.out⟩
      · by_cases h2 : 126 < (c.toNat : Int)
        · have Hb : Hid (r = false) := by rw [hr.out, all_false_of hl (by rw [Hc.out]; exact plain_bad (.inr (.inl h2)))]; rfl
          go_wp2
          go_ret
          exact ⟨ret_bool Hb.out.symm, HB.out⟩
        · by_cases h3 : (c.toNat : Int) = 39
          · have Hb : Hid (r = false) := by rw [hr.out, all_false_of hl (by rw [Hc.out]; exact plain_bad (.inr (.inr h3)))]; rfl
            have h4 : ((c.toNat : Int) == 39) = true := by rw [beq_iff_eq]; exact h3
            clear h3
            go_wp2
            go_ret
            exact ⟨ret_bool Hb.out.symm, HB.out⟩
          · have Hg : Hid ((a0.data.toList.take (k + 1)).all val_Plain.ok = true) := all_take_succ hl hall.out (by rw [Hc.out]; exact plain_ok_of h1 h2 h3)
            have h4 : ((c.toNat : Int) == 39) = false := by rw [beq_eq_false_iff_ne]; exact h3
            clear h3
            go_wp2
            go_round
            case rel => exact ⟨k + 1, by omega, by go_num, Hg⟩
            case measure => simp [intOf]; omega
    · have Hb : Hid (r = decide (a0.size ≤ 48)) := by
        rw [hr.out]
        have := hall.out
        rw [List.take_of_length_le (by rw [data_length]; omega)] at this
        rw [this]; rfl
      go_wp2
      go_ret
      exact ⟨ret_bool (by rw [Hb.out]; exact decide_eq_decide.2 (by omega)), HB.out⟩
theorem val_Plain.calls (a0 : ByteArray) (r : Bool) (w : World) (h : val_Plain.f a0 = some r) :
    Calls Tryd.prog 101 #[.string a0] w fun e w' => e = .returned (.bool r) ∧ Below w.heap.size w w' := by
  unfold val_Plain.f at h
  split at h
  · rename_i hs
    exact plain_core a0 r w hs (Option.some.inj h).symm
  · cases h
end Go.Proofs.YtbngfhlciebeeaaDoor.L
