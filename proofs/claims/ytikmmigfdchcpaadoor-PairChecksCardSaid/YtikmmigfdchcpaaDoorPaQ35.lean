/-
  Proved: a part of the proof of the claim's statement (text Q35 of it).
  Conditions: none of ours.
-/
import Derived.Test.YtikmmigfdchcpaaDoorPaQ0
namespace Go.Proofs.YtikmmigfdchcpaaDoor.PP
open Go.RowKit Go.Proofs.YtikmmigfdchcpaaDoorW.PrintWords Go.Proofs.YtikmmigfdchcpaaDoorW.PrintLast Go.Proofs.YtikmmigfdchcpaaDoorW.PrintMore
set_option linter.unusedVariables false
set_option linter.unusedSimpArgs false
def zbb.l0 : Nat → Int → Bool → Int → Option (Bool)
 | 0, _, _, _ => none
 | k + 1, x0, x1, x5 => if x5 ≤ 122 then (if x0 = x5 then (some true) else (zbb.l0 k x0 x1 ((x5 + 1) % 256))) else (if x1 = true then (some false) else (if x0 = 95 then (some true) else (if x0 ≥ 48 then (some (decide (x0 ≤ 57))) else (some false))))
def zbb.f (k : Nat) (a0 : Int) (a1 : Bool) : Option (Bool) := zbb.l0 k a0 a1 97
set_option maxHeartbeats 8000000 in
set_option maxRecDepth 100000 in
theorem zbb.calls (k : Nat) (a0 : Int) (a1 : Bool) (r : Bool) (w : World) (h : zbb.f k a0 a1 = some r) :
  Calls Tryd.prog 55 #[.int .u8 a0, .bool a1] w fun e w' => e = .returned (.bool r) ∧ za3 w w' := by
 have H : (zbb.l0 k a0 a1 97) = some r := h
 clear h
 have H' := zad.mk H
 clear H
 go_enter Tryd.func55, Tryd.ntmps55
 go_wp2
 go_loopg [5] k (fun kq v5 w' => ∃ (x5_1 : Int), v5 = .int .u8 x5_1 ∧ zad (zbb.l0 kq a0 a1 x5_1 = some r) ∧ zad (kq ≤ k) ∧ za3 w w')
 case atStart => exact ⟨(97), (by first | rfl | (simp; done) | (simp [*]; done)), H', ⟨Nat.le_refl _⟩, by repeat (first | exact za3.refl _ | apply za3.step)⟩
 case round =>
  clear H'
  try clear p2
  obtain ⟨x5_1, rfl, HA, HK1, ⟨m1, rfl⟩⟩ := hrel
  cases gk with
  | zero => exact absurd HA.out (by simp [zbb.l0])
  | succ k1 =>
   have H := HA.out
   clear HA
   simp only [zbb.l0] at H
   by_cases c3 : x5_1 ≤ 122
   ·rw [if_pos c3] at H
    have c3b0 : decide (x5_1 ≤ 122) = true := decide_eq_true c3
    clear c3
    by_cases c4 : a0 = x5_1
    ·rw [if_pos c4] at H
     have c4b0 : (a0 == x5_1) = true := beq_iff_eq.mpr c4
     have c4b1 : (a0 != x5_1) = false := bne_eq_false_iff_eq.mpr c4
     clear c4
     obtain rfl := Option.some.inj H
     go_wp2
     go_ret
     exact ⟨by first | rfl | (simp; done) | (simp [*]; done), by repeat (first | exact za3.refl _ | apply za3.step)⟩
    ·rw [if_neg c4] at H
     have c4b0 : (a0 == x5_1) = false := beq_eq_false_iff_ne.mpr c4
     have c4b1 : (a0 != x5_1) = true := bne_iff_ne.mpr c4
     have H' := zad.mk H
     clear H
     go_wp2
     go_roundg k1
     case measure => have := HK1.out; omega
     case rel => exact ⟨((x5_1 + 1) % 256), (by first | rfl | (simp; done) | (simp [*]; done)), H', ⟨by have := HK1.out; omega⟩, by repeat (first | exact za3.refl _ | apply za3.step)⟩
   ·rw [if_neg c3] at H
    have c3b0 : decide (x5_1 ≤ 122) = false := decide_eq_false c3
    clear c3
    by_cases c5 : a1 = true
    ·subst c5
     have H1 : (some false) = some r := by rw [if_pos rfl] at H; exact H
     clear H
     have H := H1
     clear H1
     obtain rfl := Option.some.inj H
     go_wp2
     go_ret
     exact ⟨by first | rfl | (simp; done) | (simp [*]; done), by repeat (first | exact za3.refl _ | apply za3.step)⟩
    ·replace c5 := Bool.eq_false_iff.mpr c5
     subst c5
     have H1 : (if a0 = 95 then (some true) else (if a0 ≥ 48 then (some (decide (a0 ≤ 57))) else (some false))) = some r := by rw [if_neg (show ¬ (false = true) by decide)] at H; exact H
     clear H
     have H := H1
     clear H1
     by_cases c6 : a0 = 95
     ·rw [if_pos c6] at H
      have c6b0 : (a0 == 95) = true := beq_iff_eq.mpr c6
      have c6b1 : (a0 != 95) = false := bne_eq_false_iff_eq.mpr c6
      clear c6
      obtain rfl := Option.some.inj H
      go_wp2
      go_ret
      exact ⟨by first | rfl | (simp; done) | (simp [*]; done), by repeat (first | exact za3.refl _ | apply za3.step)⟩
     ·rw [if_neg c6] at H
      have c6b0 : (a0 == 95) = false := beq_eq_false_iff_ne.mpr c6
      have c6b1 : (a0 != 95) = true := bne_iff_ne.mpr c6
      by_cases c7 : a0 ≥ 48
      ·rw [if_pos c7] at H
       have c7b0 : decide (48 ≤ a0) = true := decide_eq_true c7
       clear c7
       obtain rfl := Option.some.inj H
       go_wp2
       go_ret
       exact ⟨by first | rfl | (simp; done) | (simp [*]; done), by repeat (first | exact za3.refl _ | apply za3.step)⟩
      ·rw [if_neg c7] at H
       have c7b0 : decide (48 ≤ a0) = false := decide_eq_false c7
       clear c7
       obtain rfl := Option.some.inj H
       go_wp2
       go_ret
       exact ⟨by first | rfl | (simp; done) | (simp [*]; done), by repeat (first | exact za3.refl _ | apply za3.step)⟩
end Go.Proofs.YtikmmigfdchcpaaDoor.PP
