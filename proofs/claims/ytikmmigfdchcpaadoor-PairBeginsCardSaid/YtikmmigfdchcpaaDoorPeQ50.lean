/-
  Proved: a part of the proof of the claim's statement (text Q50 of it).
  Conditions: none of ours.
-/
import Derived.Test.YtikmmigfdchcpaaDoorPeQ0
import Derived.Test.YtikmmigfdchcpaaDoorPeQ1
namespace Go.Proofs.YtikmmigfdchcpaaDoor.PP
open Go.RowKit Go.Proofs.YtikmmigfdchcpaaDoorW.PrintWords Go.Proofs.YtikmmigfdchcpaaDoorW.PrintLast Go.Proofs.YtikmmigfdchcpaaDoorW.PrintMore
set_option linter.unusedVariables false
set_option linter.unusedSimpArgs false
attribute [local go_sem high] eqA38
def zat.l0 : Nat → List (S38) → List (S38) → Int → Option (Bool)
 | 0, _, _, _ => none
 | k + 1, x0, x1, x5 => if x5 < (x0.length : Int) then (if 0 ≤ x5 then (if x5 < (x1.length : Int) then (if (!(((zai x0 x5).f0) == ((zai x1 x5).f0)) || (!(((zai x0 x5).f1) == ((zai x1 x5).f1)) || (!((((zai x0 x5).f2).toList) == (((zai x1 x5).f2).toList))))) = true then (some false) else (zat.l0 k x0 x1 (wrap64 (x5 + 1)))) else (none)) else (none)) else (some true)
def zat.f (k : Nat) (l0 : List (S38)) (l1 : List (S38)) : Option (Bool) := if (l0.length : Int) = (l1.length : Int) then (zat.l0 k l0 l1 0) else (some false)
set_option maxHeartbeats 8000000 in
set_option maxRecDepth 100000 in
theorem zat.calls (k : Nat) (A0 : Option Addr) (c0 : Nat) (l0 : List (S38)) (A1 : Option Addr) (c1 : Nat) (l1 : List (S38)) (r : Bool) (w : World) (hr0 : Kd.C k38 w A0 l0.length l0) (hc0 : l0.length ≤ c0) (hr1 : Kd.C k38 w A1 l1.length l1) (hc1 : l1.length ≤ c1) (h : zat.f k l0 l1 = some r) :
  Calls Tryd.prog 25 #[.slice A0 l0.length c0, .slice A1 l1.length c1] w fun e w' => e = .returned (.bool r) ∧ zbb w w' := by
 have hu38 := Tryd.underlying38
 have HR0 := zab.mk hr0
 have HC0 := zab.mk hc0
 clear hr0 hc0
 have HR1 := zab.mk hr1
 have HC1 := zab.mk hc1
 clear hr1 hc1
 have H : (if (l0.length : Int) = (l1.length : Int) then (zat.l0 k l0 l1 0) else (some false)) = some r := h
 clear h
 by_cases c3 : (l0.length : Int) = (l1.length : Int)
 ·rw [if_pos c3] at H
  have c3b0 : ((l0.length : Int) == (l1.length : Int)) = true := beq_iff_eq.mpr c3
  have c3b1 : ((l0.length : Int) != (l1.length : Int)) = false := bne_eq_false_iff_eq.mpr c3
  have c3b2 : (l0.length == l1.length) = true := by first | simpa using c3 | (simp at c3 ⊢; omega)
  clear c3
  have H' := zab.mk H
  clear H
  go_enter Tryd.func25, Tryd.ntmps25
  go_wp2
  repeat (go_quiet (fail); try go_wp2)
  go_loopg [5] k (fun kq v5 w' => ∃ (x5_1 : Int), v5 = .int .i64 x5_1 ∧ zab (zat.l0 kq l0 l1 x5_1 = some r) ∧ zab (kq ≤ k) ∧ zbb w w')
  case atStart => exact ⟨(0), (by first | rfl | (simp; done) | (simp [*]; done)), H', ⟨Nat.le_refl _⟩, by repeat (first | exact zbb.refl _ | apply zbb.step)⟩
  case round =>
   clear H'
   try clear c1
   try clear c2
   try clear p2
   try clear c3
   try clear c3b0
   try clear c3b1
   try clear c3b2
   obtain ⟨x5_1, rfl, HA, HK1, ⟨m1, rfl⟩⟩ := hrel
   cases gk with
   | zero => exact absurd HA.out (by simp [zat.l0])
   | succ k1 =>
    have H := HA.out
    clear HA
    simp only [zat.l0] at H
    by_cases c4 : x5_1 < (l0.length : Int)
    ·rw [if_pos c4] at H
     have c4b0 : decide (x5_1 < (l0.length : Int)) = true := decide_eq_true c4
     clear c4
     by_cases c5 : 0 ≤ x5_1
     ·rw [if_pos c5] at H
      have c5b0 : decide (0 ≤ x5_1) = true := decide_eq_true c5
      clear c5
      by_cases c6 : x5_1 < (l1.length : Int)
      ·rw [if_pos c6] at H
       have c6b0 : decide (x5_1 < (l1.length : Int)) = true := decide_eq_true c6
       clear c6
       by_cases c7 : (!(((zai l0 x5_1).f0) == ((zai l1 x5_1).f0)) || (!(((zai l0 x5_1).f1) == ((zai l1 x5_1).f1)) || (!((((zai l0 x5_1).f2).toList) == (((zai l1 x5_1).f2).toList))))) = true
       ·rw [if_pos c7] at H
        have c7b0 : (!(((zai l0 x5_1).f0) == ((zai l1 x5_1).f0)) || (!(((zai l0 x5_1).f1) == ((zai l1 x5_1).f1)) || (!((((zai l0 x5_1).f2).toList) == (((zai l1 x5_1).f2).toList))))) = true := c7
        clear c7
        obtain rfl := Option.some.inj H
        have p294 : 0 ≤ (x5_1 : Int) := of_decide_eq_true (by first | (with_reducible assumption) | assumption)
        have q294 : x5_1 < (l0.length : Int) := of_decide_eq_true (by first | (with_reducible assumption) | assumption)
        obtain ⟨ad294, e294, hx294_0, hx294_1, hx294_2⟩ := zcb HR0.out x5_1 p294 q294
        cases e294
        replace p294 := eq_true p294
        replace q294 := eq_true q294
        have p295 : 0 ≤ (x5_1 : Int) := of_decide_eq_true (by first | (with_reducible assumption) | assumption)
        have q295 : x5_1 < (l1.length : Int) := of_decide_eq_true (by first | (with_reducible assumption) | assumption)
        obtain ⟨ad295, e295, hx295_0, hx295_1, hx295_2⟩ := zcb HR1.out x5_1 p295 q295
        cases e295
        replace p295 := eq_true p295
        replace q295 := eq_true q295
        go_wp2
        repeat (go_quiet (fail); try go_wp2)
        go_ret
        exact ⟨by first | rfl | (simp; done) | (simp [*]; done), by repeat (first | exact zbb.refl _ | apply zbb.step)⟩
       ·rw [if_neg c7] at H
        have c7b0 : (!(((zai l0 x5_1).f0) == ((zai l1 x5_1).f0)) || (!(((zai l0 x5_1).f1) == ((zai l1 x5_1).f1)) || (!((((zai l0 x5_1).f2).toList) == (((zai l1 x5_1).f2).toList))))) = false := by simpa using c7
        clear c7
        have H' := zab.mk H
        clear H
        have p294 : 0 ≤ (x5_1 : Int) := of_decide_eq_true (by first | (with_reducible assumption) | assumption)
        have q294 : x5_1 < (l0.length : Int) := of_decide_eq_true (by first | (with_reducible assumption) | assumption)
        obtain ⟨ad294, e294, hx294_0, hx294_1, hx294_2⟩ := zcb HR0.out x5_1 p294 q294
        cases e294
        replace p294 := eq_true p294
        replace q294 := eq_true q294
        have p295 : 0 ≤ (x5_1 : Int) := of_decide_eq_true (by first | (with_reducible assumption) | assumption)
        have q295 : x5_1 < (l1.length : Int) := of_decide_eq_true (by first | (with_reducible assumption) | assumption)
        obtain ⟨ad295, e295, hx295_0, hx295_1, hx295_2⟩ := zcb HR1.out x5_1 p295 q295
        cases e295
        replace p295 := eq_true p295
        replace q295 := eq_true q295
        go_wp2
        repeat (go_quiet (fail); try go_wp2)
        go_roundg k1
        case measure => have := HK1.out; omega
        case rel => exact ⟨(wrap64 (x5_1 + 1)), (by first | rfl | (simp; done) | (simp [*]; done)), H', ⟨by have := HK1.out; omega⟩, by repeat (first | exact zbb.refl _ | apply zbb.step)⟩
      ·rw [if_neg c6] at H
       exact absurd H (by simp)
     ·rw [if_neg c5] at H
      exact absurd H (by simp)
    ·rw [if_neg c4] at H
     have c4b0 : decide (x5_1 < (l0.length : Int)) = false := decide_eq_false c4
     clear c4
     obtain rfl := Option.some.inj H
     go_wp2
     repeat (go_quiet (fail); try go_wp2)
     go_ret
     exact ⟨by first | rfl | (simp; done) | (simp [*]; done), by repeat (first | exact zbb.refl _ | apply zbb.step)⟩
 ·rw [if_neg c3] at H
  have c3b0 : ((l0.length : Int) == (l1.length : Int)) = false := beq_eq_false_iff_ne.mpr c3
  have c3b1 : ((l0.length : Int) != (l1.length : Int)) = true := bne_iff_ne.mpr c3
  have c3b2 : (l0.length == l1.length) = false := by first | simpa using c3 | (simp at c3 ⊢; omega)
  obtain rfl := Option.some.inj H
  go_enter Tryd.func25, Tryd.ntmps25
  go_wp2
  repeat (go_quiet (fail); try go_wp2)
  go_ret
  exact ⟨by first | rfl | (simp; done) | (simp [*]; done), by repeat (first | exact zbb.refl _ | apply zbb.step)⟩
end Go.Proofs.YtikmmigfdchcpaaDoor.PP
