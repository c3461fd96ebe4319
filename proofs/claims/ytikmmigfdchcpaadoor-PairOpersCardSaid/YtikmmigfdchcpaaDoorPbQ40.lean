/-
  Proved: a part of the proof of the claim's statement (text Q40 of it).
  Conditions: none of ours.
-/
import Derived.Test.YtikmmigfdchcpaaDoorPbQ0
namespace Go.Proofs.YtikmmigfdchcpaaDoor.PP
open Go.RowKit Go.Proofs.YtikmmigfdchcpaaDoorW.PrintWords Go.Proofs.YtikmmigfdchcpaaDoorW.PrintLast Go.Proofs.YtikmmigfdchcpaaDoorW.PrintMore
set_option linter.unusedVariables false
set_option linter.unusedSimpArgs false
def zb3.f (a0 : Int) : Option (ByteArray) := if a0 = 1 then (some (⟨#[119, 114, 105, 116, 101]⟩ : ByteArray)) else (if a0 = 2 then (some (⟨#[114, 101, 97, 100]⟩ : ByteArray)) else (if a0 = 3 then (some (⟨#[115, 119, 97, 112]⟩ : ByteArray)) else (if a0 = 4 then (some (⟨#[97, 100, 100]⟩ : ByteArray)) else (if a0 = 5 then (some (⟨#[100, 101, 108]⟩ : ByteArray)) else (if a0 = 6 then (some (⟨#[104, 97, 115]⟩ : ByteArray)) else (if a0 = 7 then (some (⟨#[112, 117, 116]⟩ : ByteArray)) else (if a0 = 8 then (some (⟨#[103, 101, 116]⟩ : ByteArray)) else (if a0 = 9 then (some (⟨#[112, 117, 115, 104]⟩ : ByteArray)) else (if a0 = 10 then (some (⟨#[112, 111, 112]⟩ : ByteArray)) else (if a0 = 11 then (some (⟨#[116, 97, 107, 101]⟩ : ByteArray)) else (if a0 = 12 then (some (⟨#[102, 114, 101, 101]⟩ : ByteArray)) else (if a0 = 13 then (some (⟨#[115, 99, 97, 110]⟩ : ByteArray)) else (some (⟨#[]⟩ : ByteArray))))))))))))))
set_option maxHeartbeats 8000000 in
set_option maxRecDepth 100000 in
theorem zb3.calls (a0 : Int) (r : ByteArray) (w : World) (h : zb3.f a0 = some r) :
  Calls Tryd.prog 49 #[.int .i64 a0] w fun e w' => e = .returned (.string r) ∧ za5 w w' := by
 have H : (if a0 = 1 then (some (⟨#[119, 114, 105, 116, 101]⟩ : ByteArray)) else (if a0 = 2 then (some (⟨#[114, 101, 97, 100]⟩ : ByteArray)) else (if a0 = 3 then (some (⟨#[115, 119, 97, 112]⟩ : ByteArray)) else (if a0 = 4 then (some (⟨#[97, 100, 100]⟩ : ByteArray)) else (if a0 = 5 then (some (⟨#[100, 101, 108]⟩ : ByteArray)) else (if a0 = 6 then (some (⟨#[104, 97, 115]⟩ : ByteArray)) else (if a0 = 7 then (some (⟨#[112, 117, 116]⟩ : ByteArray)) else (if a0 = 8 then (some (⟨#[103, 101, 116]⟩ : ByteArray)) else (if a0 = 9 then (some (⟨#[112, 117, 115, 104]⟩ : ByteArray)) else (if a0 = 10 then (some (⟨#[112, 111, 112]⟩ : ByteArray)) else (if a0 = 11 then (some (⟨#[116, 97, 107, 101]⟩ : ByteArray)) else (if a0 = 12 then (some (⟨#[102, 114, 101, 101]⟩ : ByteArray)) else (if a0 = 13 then (some (⟨#[115, 99, 97, 110]⟩ : ByteArray)) else (some (⟨#[]⟩ : ByteArray))))))))))))))) = some r := h
 clear h
 by_cases c2 : a0 = 1
 ·rw [if_pos c2] at H
  have c2b0 : (a0 == 1) = true := beq_iff_eq.mpr c2
  have c2b1 : (a0 != 1) = false := bne_eq_false_iff_eq.mpr c2
  clear c2
  obtain rfl := Option.some.inj H
  go_enter Tryd.func49, Tryd.ntmps49
  go_wp2
  go_ret
  exact ⟨by first | rfl | (simp; done) | (simp [*]; done), by repeat (first | exact za5.refl _ | apply za5.step)⟩
 ·rw [if_neg c2] at H
  have c2b0 : (a0 == 1) = false := beq_eq_false_iff_ne.mpr c2
  have c2b1 : (a0 != 1) = true := bne_iff_ne.mpr c2
  by_cases c3 : a0 = 2
  ·rw [if_pos c3] at H
   have c3b0 : (a0 == 2) = true := beq_iff_eq.mpr c3
   have c3b1 : (a0 != 2) = false := bne_eq_false_iff_eq.mpr c3
   clear c3
   obtain rfl := Option.some.inj H
   go_enter Tryd.func49, Tryd.ntmps49
   go_wp2
   go_ret
   exact ⟨by first | rfl | (simp; done) | (simp [*]; done), by repeat (first | exact za5.refl _ | apply za5.step)⟩
  ·rw [if_neg c3] at H
   have c3b0 : (a0 == 2) = false := beq_eq_false_iff_ne.mpr c3
   have c3b1 : (a0 != 2) = true := bne_iff_ne.mpr c3
   by_cases c4 : a0 = 3
   ·rw [if_pos c4] at H
    have c4b0 : (a0 == 3) = true := beq_iff_eq.mpr c4
    have c4b1 : (a0 != 3) = false := bne_eq_false_iff_eq.mpr c4
    clear c4
    obtain rfl := Option.some.inj H
    go_enter Tryd.func49, Tryd.ntmps49
    go_wp2
    go_ret
    exact ⟨by first | rfl | (simp; done) | (simp [*]; done), by repeat (first | exact za5.refl _ | apply za5.step)⟩
   ·rw [if_neg c4] at H
    have c4b0 : (a0 == 3) = false := beq_eq_false_iff_ne.mpr c4
    have c4b1 : (a0 != 3) = true := bne_iff_ne.mpr c4
    by_cases c5 : a0 = 4
    ·rw [if_pos c5] at H
     have c5b0 : (a0 == 4) = true := beq_iff_eq.mpr c5
     have c5b1 : (a0 != 4) = false := bne_eq_false_iff_eq.mpr c5
     clear c5
     obtain rfl := Option.some.inj H
     go_enter Tryd.func49, Tryd.ntmps49
     go_wp2
     go_ret
     exact ⟨by first | rfl | (simp; done) | (simp [*]; done), by repeat (first | exact za5.refl _ | apply za5.step)⟩
    ·rw [if_neg c5] at H
     have c5b0 : (a0 == 4) = false := beq_eq_false_iff_ne.mpr c5
     have c5b1 : (a0 != 4) = true := bne_iff_ne.mpr c5
     by_cases c6 : a0 = 5
     ·rw [if_pos c6] at H
      have c6b0 : (a0 == 5) = true := beq_iff_eq.mpr c6
      have c6b1 : (a0 != 5) = false := bne_eq_false_iff_eq.mpr c6
      clear c6
      obtain rfl := Option.some.inj H
      go_enter Tryd.func49, Tryd.ntmps49
      go_wp2
      go_ret
      exact ⟨by first | rfl | (simp; done) | (simp [*]; done), by repeat (first | exact za5.refl _ | apply za5.step)⟩
     ·rw [if_neg c6] at H
      have c6b0 : (a0 == 5) = false := beq_eq_false_iff_ne.mpr c6
      have c6b1 : (a0 != 5) = true := bne_iff_ne.mpr c6
      by_cases c7 : a0 = 6
      ·rw [if_pos c7] at H
       have c7b0 : (a0 == 6) = true := beq_iff_eq.mpr c7
       have c7b1 : (a0 != 6) = false := bne_eq_false_iff_eq.mpr c7
       clear c7
       obtain rfl := Option.some.inj H
       go_enter Tryd.func49, Tryd.ntmps49
       go_wp2
       go_ret
       exact ⟨by first | rfl | (simp; done) | (simp [*]; done), by repeat (first | exact za5.refl _ | apply za5.step)⟩
      ·rw [if_neg c7] at H
       have c7b0 : (a0 == 6) = false := beq_eq_false_iff_ne.mpr c7
       have c7b1 : (a0 != 6) = true := bne_iff_ne.mpr c7
       by_cases c8 : a0 = 7
       ·rw [if_pos c8] at H
        have c8b0 : (a0 == 7) = true := beq_iff_eq.mpr c8
        have c8b1 : (a0 != 7) = false := bne_eq_false_iff_eq.mpr c8
        clear c8
        obtain rfl := Option.some.inj H
        go_enter Tryd.func49, Tryd.ntmps49
        go_wp2
        go_ret
        exact ⟨by first | rfl | (simp; done) | (simp [*]; done), by repeat (first | exact za5.refl _ | apply za5.step)⟩
       ·rw [if_neg c8] at H
        have c8b0 : (a0 == 7) = false := beq_eq_false_iff_ne.mpr c8
        have c8b1 : (a0 != 7) = true := bne_iff_ne.mpr c8
        by_cases c9 : a0 = 8
        ·rw [if_pos c9] at H
         have c9b0 : (a0 == 8) = true := beq_iff_eq.mpr c9
         have c9b1 : (a0 != 8) = false := bne_eq_false_iff_eq.mpr c9
         clear c9
         obtain rfl := Option.some.inj H
         go_enter Tryd.func49, Tryd.ntmps49
         go_wp2
         go_ret
         exact ⟨by first | rfl | (simp; done) | (simp [*]; done), by repeat (first | exact za5.refl _ | apply za5.step)⟩
        ·rw [if_neg c9] at H
         have c9b0 : (a0 == 8) = false := beq_eq_false_iff_ne.mpr c9
         have c9b1 : (a0 != 8) = true := bne_iff_ne.mpr c9
         by_cases c10 : a0 = 9
         ·rw [if_pos c10] at H
          have c10b0 : (a0 == 9) = true := beq_iff_eq.mpr c10
          have c10b1 : (a0 != 9) = false := bne_eq_false_iff_eq.mpr c10
          clear c10
          obtain rfl := Option.some.inj H
          go_enter Tryd.func49, Tryd.ntmps49
          go_wp2
          go_ret
          exact ⟨by first | rfl | (simp; done) | (simp [*]; done), by repeat (first | exact za5.refl _ | apply za5.step)⟩
         ·rw [if_neg c10] at H
          have c10b0 : (a0 == 9) = false := beq_eq_false_iff_ne.mpr c10
          have c10b1 : (a0 != 9) = true := bne_iff_ne.mpr c10
          by_cases c11 : a0 = 10
          ·rw [if_pos c11] at H
           have c11b0 : (a0 == 10) = true := beq_iff_eq.mpr c11
           have c11b1 : (a0 != 10) = false := bne_eq_false_iff_eq.mpr c11
           clear c11
           obtain rfl := Option.some.inj H
           go_enter Tryd.func49, Tryd.ntmps49
           go_wp2
           go_ret
           exact ⟨by first | rfl | (simp; done) | (simp [*]; done), by repeat (first | exact za5.refl _ | apply za5.step)⟩
          ·rw [if_neg c11] at H
           have c11b0 : (a0 == 10) = false := beq_eq_false_iff_ne.mpr c11
           have c11b1 : (a0 != 10) = true := bne_iff_ne.mpr c11
           by_cases c12 : a0 = 11
           ·rw [if_pos c12] at H
            have c12b0 : (a0 == 11) = true := beq_iff_eq.mpr c12
            have c12b1 : (a0 != 11) = false := bne_eq_false_iff_eq.mpr c12
            clear c12
            obtain rfl := Option.some.inj H
            go_enter Tryd.func49, Tryd.ntmps49
            go_wp2
            go_ret
            exact ⟨by first | rfl | (simp; done) | (simp [*]; done), by repeat (first | exact za5.refl _ | apply za5.step)⟩
           ·rw [if_neg c12] at H
            have c12b0 : (a0 == 11) = false := beq_eq_false_iff_ne.mpr c12
            have c12b1 : (a0 != 11) = true := bne_iff_ne.mpr c12
            by_cases c13 : a0 = 12
            ·rw [if_pos c13] at H
             have c13b0 : (a0 == 12) = true := beq_iff_eq.mpr c13
             have c13b1 : (a0 != 12) = false := bne_eq_false_iff_eq.mpr c13
             clear c13
             obtain rfl := Option.some.inj H
             go_enter Tryd.func49, Tryd.ntmps49
             go_wp2
             go_ret
             exact ⟨by first | rfl | (simp; done) | (simp [*]; done), by repeat (first | exact za5.refl _ | apply za5.step)⟩
            ·rw [if_neg c13] at H
             have c13b0 : (a0 == 12) = false := beq_eq_false_iff_ne.mpr c13
             have c13b1 : (a0 != 12) = true := bne_iff_ne.mpr c13
             by_cases c14 : a0 = 13
             ·rw [if_pos c14] at H
              have c14b0 : (a0 == 13) = true := beq_iff_eq.mpr c14
              have c14b1 : (a0 != 13) = false := bne_eq_false_iff_eq.mpr c14
              clear c14
              obtain rfl := Option.some.inj H
              go_enter Tryd.func49, Tryd.ntmps49
              go_wp2
              go_ret
              exact ⟨by first | rfl | (simp; done) | (simp [*]; done), by repeat (first | exact za5.refl _ | apply za5.step)⟩
             ·rw [if_neg c14] at H
              have c14b0 : (a0 == 13) = false := beq_eq_false_iff_ne.mpr c14
              have c14b1 : (a0 != 13) = true := bne_iff_ne.mpr c14
              obtain rfl := Option.some.inj H
              go_enter Tryd.func49, Tryd.ntmps49
              go_wp2
              go_ret
              exact ⟨by first | rfl | (simp; done) | (simp [*]; done), by repeat (first | exact za5.refl _ | apply za5.step)⟩
end Go.Proofs.YtikmmigfdchcpaaDoor.PP
