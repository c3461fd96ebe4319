/-
  Proved: a part of the proof of the claim's statement (text Q18 of it).
  Conditions: none of ours.
-/
import Derived.Test.YtikmmigfdchcpaaDoorPeQ0
namespace Go.Proofs.YtikmmigfdchcpaaDoor.PP
open Go.RowKit Go.Proofs.YtikmmigfdchcpaaDoorW.PrintWords Go.Proofs.YtikmmigfdchcpaaDoorW.PrintLast Go.Proofs.YtikmmigfdchcpaaDoorW.PrintMore
set_option linter.unusedVariables false
set_option linter.unusedSimpArgs false
def sign_domain.f (a0 : Int) : Option (Int) := if a0 = 118 then (some 2) else (if a0 = 102 then (some 3) else (if a0 = 111 then (some 4) else (some 5)))
set_option maxHeartbeats 8000000 in
set_option maxRecDepth 100000 in
theorem sign_domain.calls (a0 : Int) (r : Int) (w : World) (h : sign_domain.f a0 = some r) :
  Calls Tryd.prog 51 #[.int .u8 a0] w fun e w' => e = .returned (.int .i64 r) ∧ zbb w w' := by
 have H : (if a0 = 118 then (some 2) else (if a0 = 102 then (some 3) else (if a0 = 111 then (some 4) else (some 5)))) = some r := h
 clear h
 by_cases c2 : a0 = 118
 ·rw [if_pos c2] at H
  have c2b0 : (a0 == 118) = true := beq_iff_eq.mpr c2
  have c2b1 : (a0 != 118) = false := bne_eq_false_iff_eq.mpr c2
  clear c2
  obtain rfl := Option.some.inj H
  go_enter Tryd.func51, Tryd.ntmps51
  go_wp2
  go_ret
  exact ⟨by first | rfl | (simp; done) | (simp [*]; done), by repeat (first | exact zbb.refl _ | apply zbb.step)⟩
 ·rw [if_neg c2] at H
  have c2b0 : (a0 == 118) = false := beq_eq_false_iff_ne.mpr c2
  have c2b1 : (a0 != 118) = true := bne_iff_ne.mpr c2
  by_cases c3 : a0 = 102
  ·rw [if_pos c3] at H
   have c3b0 : (a0 == 102) = true := beq_iff_eq.mpr c3
   have c3b1 : (a0 != 102) = false := bne_eq_false_iff_eq.mpr c3
   clear c3
   obtain rfl := Option.some.inj H
   go_enter Tryd.func51, Tryd.ntmps51
   go_wp2
   go_ret
   exact ⟨by first | rfl | (simp; done) | (simp [*]; done), by repeat (first | exact zbb.refl _ | apply zbb.step)⟩
  ·rw [if_neg c3] at H
   have c3b0 : (a0 == 102) = false := beq_eq_false_iff_ne.mpr c3
   have c3b1 : (a0 != 102) = true := bne_iff_ne.mpr c3
   by_cases c4 : a0 = 111
   ·rw [if_pos c4] at H
    have c4b0 : (a0 == 111) = true := beq_iff_eq.mpr c4
    have c4b1 : (a0 != 111) = false := bne_eq_false_iff_eq.mpr c4
    clear c4
    obtain rfl := Option.some.inj H
    go_enter Tryd.func51, Tryd.ntmps51
    go_wp2
    go_ret
    exact ⟨by first | rfl | (simp; done) | (simp [*]; done), by repeat (first | exact zbb.refl _ | apply zbb.step)⟩
   ·rw [if_neg c4] at H
    have c4b0 : (a0 == 111) = false := beq_eq_false_iff_ne.mpr c4
    have c4b1 : (a0 != 111) = true := bne_iff_ne.mpr c4
    obtain rfl := Option.some.inj H
    go_enter Tryd.func51, Tryd.ntmps51
    go_wp2
    go_ret
    exact ⟨by first | rfl | (simp; done) | (simp [*]; done), by repeat (first | exact zbb.refl _ | apply zbb.step)⟩
end Go.Proofs.YtikmmigfdchcpaaDoor.PP
