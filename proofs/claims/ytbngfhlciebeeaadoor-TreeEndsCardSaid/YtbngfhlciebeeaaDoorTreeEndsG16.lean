/- Printed and hand-written steps towards the row (TreeEnds), those that it reaches. -/
import Derived.Test.YtbngfhlciebeeaaDoorTreeEndsG5
import Derived.Test.YtbngfhlciebeeaaDoorTreeEndsG6
import Derived.Test.YtbngfhlciebeeaaDoorTreeEndsTokB
import Derived.Test.YtbngfhlciebeeaaDoorTreeEndsG13
import Derived.KernelRfl
import Derived.Test.YtbngfhlciebeeaaDoorTreeEndsLxf24
section
namespace Go.Proofs.YtbngfhlciebeeaaDoor.L
open Go.RowKit Go.Proofs.YtbngfhlciebeeaaDoorW.PrintWords Go.Proofs.YtbngfhlciebeeaaDoorW.PrintLast Go.Proofs.YtbngfhlciebeeaaDoorW.PrintMore
attribute [local go_sem] max2_int min2_int max_two min_two max_three min_three max_four min_four   -- for this text's walks alone
set_option linter.unusedVariables false
set_option linter.unusedSimpArgs false
def tok_Means.f (a0 : ByteArray) : Option (Bool) := if a0.toList = ([99, 104, 97, 114, 116] : List UInt8) then (some true) else (if a0.toList = ([118, 97, 114] : List UInt8) then (some true) else (if a0.toList = ([115, 116, 97, 116, 101] : List UInt8) then (some true) else (if a0.toList = ([112, 97, 114, 97, 108, 108, 101, 108] : List UInt8) then (some true) else (if a0.toList = ([102, 105, 110, 97, 108] : List UInt8) then (some true) else (if a0.toList = ([100, 101, 101, 112] : List UInt8) then (some true) else (if a0.toList = ([115, 104, 97, 108, 108, 111, 119] : List UInt8) then (some true) else (if a0.toList = ([101, 110, 116, 101, 114] : List UInt8) then (some true) else (if a0.toList = ([101, 120, 105, 116] : List UInt8) then (some true) else (if a0.toList = ([111, 110] : List UInt8) then (some true) else (if a0.toList = ([97, 117, 116, 111] : List UInt8) then (some true) else (if a0.toList = ([101, 110, 100] : List UInt8) then (some true) else (if a0.toList = ([105, 102] : List UInt8) then (some true) else (if a0.toList = ([103, 111] : List UInt8) then (some true) else (if a0.toList = ([105, 110, 110, 101, 114] : List UInt8) then (some true) else (if a0.toList = ([100, 111] : List UInt8) then (some true) else (if a0.toList = ([115, 101, 116] : List UInt8) then (some true) else (if a0.toList = ([114, 97, 105, 115, 101] : List UInt8) then (some true) else (if a0.toList = ([115, 101, 110, 100] : List UInt8) then (some true) else (if a0.toList = ([99, 97, 110, 99, 101, 108] : List UInt8) then (some true) else (if a0.toList = ([108, 111, 103] : List UInt8) then (some true) else (if a0.toList = ([116, 114, 117, 101] : List UInt8) then (some true) else (if a0.toList = ([102, 97, 108, 115, 101] : List UInt8) then (some true) else (if a0.toList = ([110, 111, 116] : List UInt8) then (some true) else (if a0.toList = ([97, 110, 100] : List UInt8) then (some true) else (if a0.toList = ([111, 114] : List UInt8) then (some true) else (if a0.toList = ([105, 110] : List UInt8) then (some true) else (some false)))))))))))))))))))))))))))
set_option maxHeartbeats 8000000 in
set_option maxRecDepth 100000 in
theorem tok_Means.calls (a0 : ByteArray) (r : Bool) (w : World) (h : tok_Means.f a0 = some r) :
  Calls Tryd.prog 28 #[.string a0] w fun e w' => e = .returned (.bool r) ∧ Drawn0 w w' := by
 have H : (if a0.toList = ([99, 104, 97, 114, 116] : List UInt8) then (some true) else (if a0.toList = ([118, 97, 114] : List UInt8) then (some true) else (if a0.toList = ([115, 116, 97, 116, 101] : List UInt8) then (some true) else (if a0.toList = ([112, 97, 114, 97, 108, 108, 101, 108] : List UInt8) then (some true) else (if a0.toList = ([102, 105, 110, 97, 108] : List UInt8) then (some true) else (if a0.toList = ([100, 101, 101, 112] : List UInt8) then (some true) else (if a0.toList = ([115, 104, 97, 108, 108, 111, 119] : List UInt8) then (some true) else (if a0.toList = ([101, 110, 116, 101, 114] : List UInt8) then (some true) else (if a0.toList = ([101, 120, 105, 116] : List UInt8) then (some true) else (if a0.toList = ([111, 110] : List UInt8) then (some true) else (if a0.toList = ([97, 117, 116, 111] : List UInt8) then (some true) else (if a0.toList = ([101, 110, 100] : List UInt8) then (some true) else (if a0.toList = ([105, 102] : List UInt8) then (some true) else (if a0.toList = ([103, 111] : List UInt8) then (some true) else (if a0.toList = ([105, 110, 110, 101, 114] : List UInt8) then (some true) else (if a0.toList = ([100, 111] : List UInt8) then (some true) else (if a0.toList = ([115, 101, 116] : List UInt8) then (some true) else (if a0.toList = ([114, 97, 105, 115, 101] : List UInt8) then (some true) else (if a0.toList = ([115, 101, 110, 100] : List UInt8) then (some true) else (if a0.toList = ([99, 97, 110, 99, 101, 108] : List UInt8) then (some true) else (if a0.toList = ([108, 111, 103] : List UInt8) then (some true) else (if a0.toList = ([116, 114, 117, 101] : List UInt8) then (some true) else (if a0.toList = ([102, 97, 108, 115, 101] : List UInt8) then (some true) else (if a0.toList = ([110, 111, 116] : List UInt8) then (some true) else (if a0.toList = ([97, 110, 100] : List UInt8) then (some true) else (if a0.toList = ([111, 114] : List UInt8) then (some true) else (if a0.toList = ([105, 110] : List UInt8) then (some true) else (some false)))))))))))))))))))))))))))) = some r := h
 clear h
 by_cases c2 : a0.toList = ([99, 104, 97, 114, 116] : List UInt8)
 ·rw [if_pos c2] at H
  have c2b0 := beq_iff_eq.mpr c2
  have c2b1 := bne_eq_false_iff_eq.mpr c2
  clear c2
  obtain rfl := Option.some.inj H
  go_enter Tryd.func28, Tryd.ntmps28
  go_wp2
  go_ret
  exact ⟨by first | rfl | (simp; done) | (simp [*]; done), by repeat (first | exact Drawn0.refl _ | apply Drawn0.step)⟩
 ·rw [if_neg c2] at H
  have c2b0 := beq_eq_false_iff_ne.mpr c2
  have c2b1 := bne_iff_ne.mpr c2
  by_cases c3 : a0.toList = ([118, 97, 114] : List UInt8)
  ·rw [if_pos c3] at H
   have c3b0 := beq_iff_eq.mpr c3
   have c3b1 := bne_eq_false_iff_eq.mpr c3
   clear c3
   obtain rfl := Option.some.inj H
   go_enter Tryd.func28, Tryd.ntmps28
   go_wp2
   go_ret
   exact ⟨by first | rfl | (simp; done) | (simp [*]; done), by repeat (first | exact Drawn0.refl _ | apply Drawn0.step)⟩
  ·rw [if_neg c3] at H
   have c3b0 := beq_eq_false_iff_ne.mpr c3
   have c3b1 := bne_iff_ne.mpr c3
   by_cases c4 : a0.toList = ([115, 116, 97, 116, 101] : List UInt8)
   ·rw [if_pos c4] at H
    have c4b0 := beq_iff_eq.mpr c4
    have c4b1 := bne_eq_false_iff_eq.mpr c4
    clear c4
    obtain rfl := Option.some.inj H
    go_enter Tryd.func28, Tryd.ntmps28
    go_wp2
    go_ret
    exact ⟨by first | rfl | (simp; done) | (simp [*]; done), by repeat (first | exact Drawn0.refl _ | apply Drawn0.step)⟩
   ·rw [if_neg c4] at H
    have c4b0 := beq_eq_false_iff_ne.mpr c4
    have c4b1 := bne_iff_ne.mpr c4
    by_cases c5 : a0.toList = ([112, 97, 114, 97, 108, 108, 101, 108] : List UInt8)
    ·rw [if_pos c5] at H
     have c5b0 := beq_iff_eq.mpr c5
     have c5b1 := bne_eq_false_iff_eq.mpr c5
     clear c5
     obtain rfl := Option.some.inj H
     go_enter Tryd.func28, Tryd.ntmps28
     go_wp2
     go_ret
     exact ⟨by first | rfl | (simp; done) | (simp [*]; done), by repeat (first | exact Drawn0.refl _ | apply Drawn0.step)⟩
    ·rw [if_neg c5] at H
     have c5b0 := beq_eq_false_iff_ne.mpr c5
     have c5b1 := bne_iff_ne.mpr c5
     by_cases c6 : a0.toList = ([102, 105, 110, 97, 108] : List UInt8)
     ·rw [if_pos c6] at H
      have c6b0 := beq_iff_eq.mpr c6
      have c6b1 := bne_eq_false_iff_eq.mpr c6
      clear c6
      obtain rfl := Option.some.inj H
      go_enter Tryd.func28, Tryd.ntmps28
      go_wp2
      go_ret
      exact ⟨by first | rfl | (simp; done) | (simp [*]; done), by repeat (first | exact Drawn0.refl _ | apply Drawn0.step)⟩
     ·rw [if_neg c6] at H
      have c6b0 := beq_eq_false_iff_ne.mpr c6
      have c6b1 := bne_iff_ne.mpr c6
      by_cases c7 : a0.toList = ([100, 101, 101, 112] : List UInt8)
      ·rw [if_pos c7] at H
       have c7b0 := beq_iff_eq.mpr c7
       have c7b1 := bne_eq_false_iff_eq.mpr c7
       clear c7
       obtain rfl := Option.some.inj H
       go_enter Tryd.func28, Tryd.ntmps28
       go_wp2
       go_ret
       exact ⟨by first | rfl | (simp; done) | (simp [*]; done), by repeat (first | exact Drawn0.refl _ | apply Drawn0.step)⟩
      ·rw [if_neg c7] at H
       have c7b0 := beq_eq_false_iff_ne.mpr c7
       have c7b1 := bne_iff_ne.mpr c7
       by_cases c8 : a0.toList = ([115, 104, 97, 108, 108, 111, 119] : List UInt8)
       ·rw [if_pos c8] at H
        have c8b0 := beq_iff_eq.mpr c8
        have c8b1 := bne_eq_false_iff_eq.mpr c8
        clear c8
        obtain rfl := Option.some.inj H
        go_enter Tryd.func28, Tryd.ntmps28
        go_wp2
        go_ret
        exact ⟨by first | rfl | (simp; done) | (simp [*]; done), by repeat (first | exact Drawn0.refl _ | apply Drawn0.step)⟩
       ·rw [if_neg c8] at H
        have c8b0 := beq_eq_false_iff_ne.mpr c8
        have c8b1 := bne_iff_ne.mpr c8
        by_cases c9 : a0.toList = ([101, 110, 116, 101, 114] : List UInt8)
        ·rw [if_pos c9] at H
         have c9b0 := beq_iff_eq.mpr c9
         have c9b1 := bne_eq_false_iff_eq.mpr c9
         clear c9
         obtain rfl := Option.some.inj H
         go_enter Tryd.func28, Tryd.ntmps28
         go_wp2
         go_ret
         exact ⟨by first | rfl | (simp; done) | (simp [*]; done), by repeat (first | exact Drawn0.refl _ | apply Drawn0.step)⟩
        ·rw [if_neg c9] at H
         have c9b0 := beq_eq_false_iff_ne.mpr c9
         have c9b1 := bne_iff_ne.mpr c9
         by_cases c10 : a0.toList = ([101, 120, 105, 116] : List UInt8)
         ·rw [if_pos c10] at H
          have c10b0 := beq_iff_eq.mpr c10
          have c10b1 := bne_eq_false_iff_eq.mpr c10
          clear c10
          obtain rfl := Option.some.inj H
          go_enter Tryd.func28, Tryd.ntmps28
          go_wp2
          go_ret
          exact ⟨by first | rfl | (simp; done) | (simp [*]; done), by repeat (first | exact Drawn0.refl _ | apply Drawn0.step)⟩
         ·rw [if_neg c10] at H
          have c10b0 := beq_eq_false_iff_ne.mpr c10
          have c10b1 := bne_iff_ne.mpr c10
          by_cases c11 : a0.toList = ([111, 110] : List UInt8)
          ·rw [if_pos c11] at H
           have c11b0 := beq_iff_eq.mpr c11
           have c11b1 := bne_eq_false_iff_eq.mpr c11
           clear c11
           obtain rfl := Option.some.inj H
           go_enter Tryd.func28, Tryd.ntmps28
           go_wp2
           go_ret
           exact ⟨by first | rfl | (simp; done) | (simp [*]; done), by repeat (first | exact Drawn0.refl _ | apply Drawn0.step)⟩
          ·rw [if_neg c11] at H
           have c11b0 := beq_eq_false_iff_ne.mpr c11
           have c11b1 := bne_iff_ne.mpr c11
           by_cases c12 : a0.toList = ([97, 117, 116, 111] : List UInt8)
           ·rw [if_pos c12] at H
            have c12b0 := beq_iff_eq.mpr c12
            have c12b1 := bne_eq_false_iff_eq.mpr c12
            clear c12
            obtain rfl := Option.some.inj H
            go_enter Tryd.func28, Tryd.ntmps28
            go_wp2
            go_ret
            exact ⟨by first | rfl | (simp; done) | (simp [*]; done), by repeat (first | exact Drawn0.refl _ | apply Drawn0.step)⟩
           ·rw [if_neg c12] at H
            have c12b0 := beq_eq_false_iff_ne.mpr c12
            have c12b1 := bne_iff_ne.mpr c12
            by_cases c13 : a0.toList = ([101, 110, 100] : List UInt8)
            ·rw [if_pos c13] at H
             have c13b0 := beq_iff_eq.mpr c13
             have c13b1 := bne_eq_false_iff_eq.mpr c13
             clear c13
             obtain rfl := Option.some.inj H
             go_enter Tryd.func28, Tryd.ntmps28
             go_wp2
             go_ret
             exact ⟨by first | rfl | (simp; done) | (simp [*]; done), by repeat (first | exact Drawn0.refl _ | apply Drawn0.step)⟩
            ·rw [if_neg c13] at H
             have c13b0 := beq_eq_false_iff_ne.mpr c13
             have c13b1 := bne_iff_ne.mpr c13
             by_cases c14 : a0.toList = ([105, 102] : List UInt8)
             ·rw [if_pos c14] at H
              have c14b0 := beq_iff_eq.mpr c14
              have c14b1 := bne_eq_false_iff_eq.mpr c14
              clear c14
              obtain rfl := Option.some.inj H
              go_enter Tryd.func28, Tryd.ntmps28
              go_wp2
              go_ret
              exact ⟨by first | rfl | (simp; done) | (simp [*]; done), by repeat (first | exact Drawn0.refl _ | apply Drawn0.step)⟩
             ·rw [if_neg c14] at H
              have c14b0 := beq_eq_false_iff_ne.mpr c14
              have c14b1 := bne_iff_ne.mpr c14
              by_cases c15 : a0.toList = ([103, 111] : List UInt8)
              ·rw [if_pos c15] at H
               have c15b0 := beq_iff_eq.mpr c15
               have c15b1 := bne_eq_false_iff_eq.mpr c15
               clear c15
               obtain rfl := Option.some.inj H
               go_enter Tryd.func28, Tryd.ntmps28
               go_wp2
               go_ret
               exact ⟨by first | rfl | (simp; done) | (simp [*]; done), by repeat (first | exact Drawn0.refl _ | apply Drawn0.step)⟩
              ·rw [if_neg c15] at H
               have c15b0 := beq_eq_false_iff_ne.mpr c15
               have c15b1 := bne_iff_ne.mpr c15
               by_cases c16 : a0.toList = ([105, 110, 110, 101, 114] : List UInt8)
               ·rw [if_pos c16] at H
                have c16b0 := beq_iff_eq.mpr c16
                have c16b1 := bne_eq_false_iff_eq.mpr c16
                clear c16
                obtain rfl := Option.some.inj H
                go_enter Tryd.func28, Tryd.ntmps28
                go_wp2
                go_ret
                exact ⟨by first | rfl | (simp; done) | (simp [*]; done), by repeat (first | exact Drawn0.refl _ | apply Drawn0.step)⟩
               ·rw [if_neg c16] at H
                have c16b0 := beq_eq_false_iff_ne.mpr c16
                have c16b1 := bne_iff_ne.mpr c16
                by_cases c17 : a0.toList = ([100, 111] : List UInt8)
                ·rw [if_pos c17] at H
                 have c17b0 := beq_iff_eq.mpr c17
                 have c17b1 := bne_eq_false_iff_eq.mpr c17
                 clear c17
                 obtain rfl := Option.some.inj H
                 go_enter Tryd.func28, Tryd.ntmps28
                 go_wp2
                 go_ret
                 exact ⟨by first | rfl | (simp; done) | (simp [*]; done), by repeat (first | exact Drawn0.refl _ | apply Drawn0.step)⟩
                ·rw [if_neg c17] at H
                 have c17b0 := beq_eq_false_iff_ne.mpr c17
                 have c17b1 := bne_iff_ne.mpr c17
                 by_cases c18 : a0.toList = ([115, 101, 116] : List UInt8)
                 ·rw [if_pos c18] at H
                  have c18b0 := beq_iff_eq.mpr c18
                  have c18b1 := bne_eq_false_iff_eq.mpr c18
                  clear c18
                  obtain rfl := Option.some.inj H
                  go_enter Tryd.func28, Tryd.ntmps28
                  go_wp2
                  go_ret
                  exact ⟨by first | rfl | (simp; done) | (simp [*]; done), by repeat (first | exact Drawn0.refl _ | apply Drawn0.step)⟩
                 ·rw [if_neg c18] at H
                  have c18b0 := beq_eq_false_iff_ne.mpr c18
                  have c18b1 := bne_iff_ne.mpr c18
                  by_cases c19 : a0.toList = ([114, 97, 105, 115, 101] : List UInt8)
                  ·rw [if_pos c19] at H
                   have c19b0 := beq_iff_eq.mpr c19
                   have c19b1 := bne_eq_false_iff_eq.mpr c19
                   clear c19
                   obtain rfl := Option.some.inj H
                   go_enter Tryd.func28, Tryd.ntmps28
                   go_wp2
                   go_ret
                   exact ⟨by first | rfl | (simp; done) | (simp [*]; done), by repeat (first | exact Drawn0.refl _ | apply Drawn0.step)⟩
                  ·rw [if_neg c19] at H
                   have c19b0 := beq_eq_false_iff_ne.mpr c19
                   have c19b1 := bne_iff_ne.mpr c19
                   by_cases c20 : a0.toList = ([115, 101, 110, 100] : List UInt8)
                   ·rw [if_pos c20] at H
                    have c20b0 := beq_iff_eq.mpr c20
                    have c20b1 := bne_eq_false_iff_eq.mpr c20
                    clear c20
                    obtain rfl := Option.some.inj H
                    go_enter Tryd.func28, Tryd.ntmps28
                    go_wp2
                    go_ret
                    exact ⟨by first | rfl | (simp; done) | (simp [*]; done), by repeat (first | exact Drawn0.refl _ | apply Drawn0.step)⟩
                   ·rw [if_neg c20] at H
                    have c20b0 := beq_eq_false_iff_ne.mpr c20
                    have c20b1 := bne_iff_ne.mpr c20
                    by_cases c21 : a0.toList = ([99, 97, 110, 99, 101, 108] : List UInt8)
                    ·rw [if_pos c21] at H
                     have c21b0 := beq_iff_eq.mpr c21
                     have c21b1 := bne_eq_false_iff_eq.mpr c21
                     clear c21
                     obtain rfl := Option.some.inj H
                     go_enter Tryd.func28, Tryd.ntmps28
                     go_wp2
                     go_ret
                     exact ⟨by first | rfl | (simp; done) | (simp [*]; done), by repeat (first | exact Drawn0.refl _ | apply Drawn0.step)⟩
                    ·rw [if_neg c21] at H
                     have c21b0 := beq_eq_false_iff_ne.mpr c21
                     have c21b1 := bne_iff_ne.mpr c21
                     by_cases c22 : a0.toList = ([108, 111, 103] : List UInt8)
                     ·rw [if_pos c22] at H
                      have c22b0 := beq_iff_eq.mpr c22
                      have c22b1 := bne_eq_false_iff_eq.mpr c22
                      clear c22
                      obtain rfl := Option.some.inj H
                      go_enter Tryd.func28, Tryd.ntmps28
                      go_wp2
                      go_ret
                      exact ⟨by first | rfl | (simp; done) | (simp [*]; done), by repeat (first | exact Drawn0.refl _ | apply Drawn0.step)⟩
                     ·rw [if_neg c22] at H
                      have c22b0 := beq_eq_false_iff_ne.mpr c22
                      have c22b1 := bne_iff_ne.mpr c22
                      by_cases c23 : a0.toList = ([116, 114, 117, 101] : List UInt8)
                      ·rw [if_pos c23] at H
                       have c23b0 := beq_iff_eq.mpr c23
                       have c23b1 := bne_eq_false_iff_eq.mpr c23
                       clear c23
                       obtain rfl := Option.some.inj H
                       go_enter Tryd.func28, Tryd.ntmps28
                       go_wp2
                       go_ret
                       exact ⟨by first | rfl | (simp; done) | (simp [*]; done), by repeat (first | exact Drawn0.refl _ | apply Drawn0.step)⟩
                      ·rw [if_neg c23] at H
                       have c23b0 := beq_eq_false_iff_ne.mpr c23
                       have c23b1 := bne_iff_ne.mpr c23
                       by_cases c24 : a0.toList = ([102, 97, 108, 115, 101] : List UInt8)
                       ·rw [if_pos c24] at H
                        have c24b0 := beq_iff_eq.mpr c24
                        have c24b1 := bne_eq_false_iff_eq.mpr c24
                        clear c24
                        obtain rfl := Option.some.inj H
                        go_enter Tryd.func28, Tryd.ntmps28
                        go_wp2
                        go_ret
                        exact ⟨by first | rfl | (simp; done) | (simp [*]; done), by repeat (first | exact Drawn0.refl _ | apply Drawn0.step)⟩
                       ·rw [if_neg c24] at H
                        have c24b0 := beq_eq_false_iff_ne.mpr c24
                        have c24b1 := bne_iff_ne.mpr c24
                        by_cases c25 : a0.toList = ([110, 111, 116] : List UInt8)
                        ·rw [if_pos c25] at H
                         have c25b0 := beq_iff_eq.mpr c25
                         have c25b1 := bne_eq_false_iff_eq.mpr c25
                         clear c25
                         obtain rfl := Option.some.inj H
                         go_enter Tryd.func28, Tryd.ntmps28
                         go_wp2
                         go_ret
                         exact ⟨by first | rfl | (simp; done) | (simp [*]; done), by repeat (first | exact Drawn0.refl _ | apply Drawn0.step)⟩
                        ·rw [if_neg c25] at H
                         have c25b0 := beq_eq_false_iff_ne.mpr c25
                         have c25b1 := bne_iff_ne.mpr c25
                         by_cases c26 : a0.toList = ([97, 110, 100] : List UInt8)
                         ·rw [if_pos c26] at H
                          have c26b0 := beq_iff_eq.mpr c26
                          have c26b1 := bne_eq_false_iff_eq.mpr c26
                          clear c26
                          obtain rfl := Option.some.inj H
                          go_enter Tryd.func28, Tryd.ntmps28
                          go_wp2
                          go_ret
                          exact ⟨by first | rfl | (simp; done) | (simp [*]; done), by repeat (first | exact Drawn0.refl _ | apply Drawn0.step)⟩
                         ·rw [if_neg c26] at H
                          have c26b0 := beq_eq_false_iff_ne.mpr c26
                          have c26b1 := bne_iff_ne.mpr c26
                          by_cases c27 : a0.toList = ([111, 114] : List UInt8)
                          ·rw [if_pos c27] at H
                           have c27b0 := beq_iff_eq.mpr c27
                           have c27b1 := bne_eq_false_iff_eq.mpr c27
                           clear c27
                           obtain rfl := Option.some.inj H
                           go_enter Tryd.func28, Tryd.ntmps28
                           go_wp2
                           go_ret
                           exact ⟨by first | rfl | (simp; done) | (simp [*]; done), by repeat (first | exact Drawn0.refl _ | apply Drawn0.step)⟩
                          ·rw [if_neg c27] at H
                           have c27b0 := beq_eq_false_iff_ne.mpr c27
                           have c27b1 := bne_iff_ne.mpr c27
                           by_cases c28 : a0.toList = ([105, 110] : List UInt8)
                           ·rw [if_pos c28] at H
                            have c28b0 := beq_iff_eq.mpr c28
                            have c28b1 := bne_eq_false_iff_eq.mpr c28
                            clear c28
                            obtain rfl := Option.some.inj H
                            go_enter Tryd.func28, Tryd.ntmps28
                            go_wp2
                            go_ret
                            exact ⟨by first | rfl | (simp; done) | (simp [*]; done), by repeat (first | exact Drawn0.refl _ | apply Drawn0.step)⟩
                           ·rw [if_neg c28] at H
                            have c28b0 := beq_eq_false_iff_ne.mpr c28
                            have c28b1 := bne_iff_ne.mpr c28
                            obtain rfl := Option.some.inj H
                            go_enter Tryd.func28, Tryd.ntmps28
                            go_wp2
                            go_ret
                            exact ⟨by first | rfl | (simp; done) | (simp [*]; done), by repeat (first | exact Drawn0.refl _ | apply Drawn0.step)⟩
end Go.Proofs.YtbngfhlciebeeaaDoor.L
end
section
namespace Go.Proofs.YtbngfhlciebeeaaDoor.Sp
set_option linter.unusedVariables false
set_option linter.unusedSimpArgs false
open Go.RowKit Go.Proofs.YtbngfhlciebeeaaDoor.L Go.Proofs.YtbngfhlciebeeaaDoorW.PrintWords
def meanWords : List (List UInt8) := [[99, 104, 97, 114, 116], [118, 97, 114], [115, 116, 97, 116, 101], [112, 97, 114, 97, 108, 108, 101, 108], [102, 105, 110, 97, 108], [100, 101, 101, 112], [115, 104, 97, 108, 108, 111, 119], [101, 110, 116, 101, 114], [101, 120, 105, 116], [111, 110], [97, 117, 116, 111], [101, 110, 100], [105, 102], [103, 111], [105, 110, 110, 101, 114], [100, 111], [115, 101, 116], [114, 97, 105, 115, 101], [115, 101, 110, 100], [99, 97, 110, 99, 101, 108], [108, 111, 103], [116, 114, 117, 101], [102, 97, 108, 115, 101], [110, 111, 116], [97, 110, 100], [111, 114], [105, 110]]
theorem if_mem {x w : List UInt8} {ws : List (List UInt8)} {r : Option Bool} (h : r = some (decide (x ∈ ws))) : (if x = w then some true else r) = some (decide (x ∈ w :: ws)) := by
  by_cases hx : x = w
  · rw [if_pos hx, decide_eq_true (by rw [hx]; exact List.mem_cons_self)]
  · rw [if_neg hx, h]
    simp [hx]
theorem tMeans_eq (s : ByteArray) : tok_Means.f s = some (decide (s.data.toList ∈ meanWords)) := by
  have key : ∀ x : List UInt8, s.toList = x → tok_Means.f s = some (decide (x ∈ meanWords)) := fun x hx => by
    unfold tok_Means.f meanWords
    rw [hx]
    repeat' first
      | exact rfl
      | refine if_mem ?_
  exact key _ (ByteArray.toList_eq s)
theorem tokenAt_kind {L : List UInt8} {i : Nat} {k : Int} {t : List UInt8} {n : Int} {e : Nat} (h : tokenAt L i = .ok (k, t, n, e)) : 1 ≤ k := by
  have hp : ∀ (f e : Nat) (k k' : Int) (e' : Nat), 1 ≤ k → pathGo L f e k = some (k', e') → 1 ≤ k' := by
    intro f
    induction f with
    | zero => intro e k k' e' _ h; simp [pathGo] at h
    | succ f ih =>
      intro e k k' e' hk h
      unfold pathGo at h
      split at h
      · split at h
        · cases h
        · exact ih _ 2 k' e' (by omega) h
      · simp only [Option.some.injEq, Prod.mk.injEq] at h
        omega
  unfold tokenAt at h
  repeat' split at h
  all_goals first
    | (cases h; done)
    | (rename_i hp2 _; have := hp _ _ _ _ _ (by omega) hp2; simp only [Except.ok.injEq, Prod.mk.injEq] at h; omega)
    | (simp only [Except.ok.injEq, Prod.mk.injEq] at h; omega)
theorem lexGo_kind (L : List UInt8) : ∀ (f i : Nat) (out : List Tk), (∀ t ∈ out, 1 ≤ t.kind) → ∀ t ∈ (lexGo L f i out).1, 1 ≤ t.kind
  | 0, i, out, ho => by simp [lexGo]
  | f + 1, i, out, ho => by
    simp only [lexGo]
    split
    · exact ho
    · split
      · simp
      · cases ht : tokenAt L (pend blankB L i) with
        | error e => simp
        | ok x =>
          obtain ⟨k, t, n, e⟩ := x
          dsimp only
          refine lexGo_kind L f e _ (fun t' h => ?_)
          rcases List.mem_append.1 h with h | h
          · exact ho _ h
          · rw [List.mem_singleton.1 h]
            exact tokenAt_kind ht
theorem lex_kind (L : List UInt8) : ∀ t ∈ (lex L).1, 1 ≤ t.kind := lexGo_kind L _ _ _ (by simp)
def eventT (s : ByteArray) : Bool := match lex s.data.toList with
  | ([t], e, _) => decide (e = 0) && decide (t.kind < 3) && decide (t.text = s.data.toList)
  | _ => false
theorem text_eq (t : List UInt8) (s : ByteArray) : ((⟨t.toArray⟩ : ByteArray).toList == s.toList) = decide (t = s.data.toList) := by
  rw [ByteArray.toList_eq, ByteArray.toList_eq]
  by_cases h : t = s.data.toList
  · rw [decide_eq_true h]; simp [h]
  · rw [decide_eq_false h]; simp [h]
theorem Event_ev (s : ByteArray) (hs : s.size ≤ 1000000) : Ev (fun k => tok_Event.f k s) (eventT s) := by
  unfold tok_Event.f eventT
  have hk := lex_kind s.data.toList
  refine Ev.bind (Lex_ev s (by omega)) ?_
  generalize lex s.data.toList = x at *
  obtain ⟨ts, e, p⟩ := x
  dsimp only at hk ⊢
  by_cases he : e = 0
  · refine Ev.pos he ?_
    rcases ts with _ | ⟨t, _ | ⟨t2, ts⟩⟩
    · exact Ev.neg (by simp) (Ev.some rfl)
    · have h1 := hk t (by simp)
      refine Ev.pos (by simp) (Ev.pos (by simp) ?_)
      rw [show rd_T32 (List.map Tk.s32 [t]) 0 = t.s32 from rfl]
      have hx := text_eq t.text s
      by_cases hk1 : t.kind = 1
      · refine Ev.pos hk1 (Ev.some ?_)
        dsimp only
        rw [decide_eq_true he, decide_eq_true (by omega)]
        exact hx
      · refine Ev.neg hk1 ?_
        by_cases hk2 : t.kind = 2
        · refine Ev.pos hk2 (Ev.some ?_)
          dsimp only
          rw [decide_eq_true he, decide_eq_true (by omega)]
          exact hx
        · refine Ev.neg hk2 (Ev.some ?_)
          dsimp only
          rw [decide_eq_false (show ¬ t.kind < 3 by omega)]
          simp
    · exact Ev.neg (by simp; omega) (Ev.some rfl)
  · refine Ev.neg he (Ev.some ?_)
    rcases ts with _ | ⟨t, _ | ⟨t2, ts⟩⟩
    · rfl
    · dsimp only; rw [decide_eq_false he]; rfl
    · rfl
end Go.Proofs.YtbngfhlciebeeaaDoor.Sp
end
