import Derived.Test.YtikmmigfdchcpaaDoorPbQ0
import Derived.Test.YtikmmigfdchcpaaDoorPbQ902
/-
  Proved: a part of the proof of the claim's statement (text Q53 of it).
  Conditions: none of ours.
-/
namespace Go.Proofs.YtikmmigfdchcpaaDoor.PP
open Go.RowKit Go.Proofs.YtikmmigfdchcpaaDoorW.PrintWords Go.Proofs.YtikmmigfdchcpaaDoorW.PrintLast Go.Proofs.YtikmmigfdchcpaaDoorW.PrintMore
set_option linter.unusedVariables false
set_option linter.unusedSimpArgs false
attribute [local go_sem high] eqA38
def zbh.l0 : Nat → List (S47) → Int → Int → Option (Int)
 | 0, _, _, _ => none
 | k + 1, x0, x1, x5 => if x5 < (x0.length : Int) then (if 0 ≤ x5 then (if 0 ≤ x1 then (if x1 < (x0.length : Int) then (if (((zah x0 x5).f1.f0) == ((zah x0 x1).f1.f0) && (((zah x0 x5).f1.f1) == ((zah x0 x1).f1.f1) && ((((zah x0 x5).f1.f2).toList) == (((zah x0 x1).f1.f2).toList)))) = true then (some x5) else (zbh.l0 k x0 x1 (wrap64 (x5 + 1)))) else (none)) else (none)) else (none)) else (some (-1))
def zbh.f (k : Nat) (l0 : List (S47)) (a1 : Int) : Option (Int) := zbh.l0 k l0 a1 (wrap64 (a1 + 1))
set_option maxHeartbeats 8000000 in
set_option maxRecDepth 100000 in
theorem zbh.calls (k : Nat) (A0 : Option Addr) (c0 : Nat) (l0 : List (S47)) (a1 : Int) (r : Int) (w : World) (hr0 : Kd.C k47 w A0 l0.length l0) (hc0 : l0.length ≤ c0) (h : zbh.f k l0 a1 = some r) :
  Calls Tryd.prog 24 #[.slice A0 l0.length c0, .int .i64 a1] w fun e w' => e = .returned (.int .i64 r) ∧ za5 w w' := by
 have hu38 := Tryd.underlying38
 have HR0 := zae.mk hr0
 have HC0 := zae.mk hc0
 clear hr0 hc0
 have H : (zbh.l0 k l0 a1 (wrap64 (a1 + 1))) = some r := h
 clear h
 have H' := zae.mk H
 clear H
 go_enter Tryd.func24, Tryd.ntmps24
 go_wp2
 repeat (go_quiet (fail); try go_wp2)
 go_loopg [5] k (fun kq v5 w' => ∃ (x5_1 : Int), v5 = .int .i64 x5_1 ∧ zae (zbh.l0 kq l0 a1 x5_1 = some r) ∧ zae (kq ≤ k) ∧ za5 w w')
 case atStart => exact ⟨(wrap64 (a1 + 1)), (by first | rfl | (simp; done) | (simp [*]; done)), H', ⟨Nat.le_refl _⟩, by repeat (first | exact za5.refl _ | apply za5.step)⟩
 case round =>
  clear H'
  try clear c2
  try clear p2
  obtain ⟨x5_1, rfl, HA, HK1, ⟨m1, rfl⟩⟩ := hrel
  cases gk with
  | zero => exact absurd HA.out (by simp [zbh.l0])
  | succ k1 =>
   have H := HA.out
   clear HA
   simp only [zbh.l0] at H
   by_cases c3 : x5_1 < (l0.length : Int)
   ·rw [if_pos c3] at H
    have c3b0 : decide (x5_1 < (l0.length : Int)) = true := decide_eq_true c3
    clear c3
    by_cases c4 : 0 ≤ x5_1
    ·rw [if_pos c4] at H
     have c4b0 : decide (0 ≤ x5_1) = true := decide_eq_true c4
     clear c4
     by_cases c5 : 0 ≤ a1
     ·rw [if_pos c5] at H
      have c5b0 : decide (0 ≤ a1) = true := decide_eq_true c5
      clear c5
      by_cases c6 : a1 < (l0.length : Int)
      ·rw [if_pos c6] at H
       have c6b0 : decide (a1 < (l0.length : Int)) = true := decide_eq_true c6
       clear c6
       by_cases c7 : (((zah l0 x5_1).f1.f0) == ((zah l0 a1).f1.f0) && (((zah l0 x5_1).f1.f1) == ((zah l0 a1).f1.f1) && ((((zah l0 x5_1).f1.f2).toList) == (((zah l0 a1).f1.f2).toList)))) = true
       ·rw [if_pos c7] at H
        have c7b0 : (((zah l0 x5_1).f1.f0) == ((zah l0 a1).f1.f0) && (((zah l0 x5_1).f1.f1) == ((zah l0 a1).f1.f1) && ((((zah l0 x5_1).f1.f2).toList) == (((zah l0 a1).f1.f2).toList)))) = true := c7
        (try (have c7b1 : decide (((zah l0 x5_1).f1.f0) = ((zah l0 a1).f1.f0) && (((zah l0 x5_1).f1.f1) == ((zah l0 a1).f1.f1) && ((((zah l0 x5_1).f1.f2).toList) == (((zah l0 a1).f1.f2).toList)))) = true := by simpa using c7))
        (try (have c7b2 : (((zah l0 x5_1).f1.f0) == ((zah l0 a1).f1.f0) && (((zah l0 x5_1).f1.f1) == ((zah l0 a1).f1.f1) && ((((zah l0 x5_1).f1.f2).toList) == (((zah l0 a1).f1.f2).toList)))) = true := by simpa using c7))
        clear c7
        obtain rfl := Option.some.inj H
        have p303 : 0 ≤ (x5_1 : Int) := of_decide_eq_true (by first | (with_reducible assumption) | assumption)
        have q303 : x5_1 < (l0.length : Int) := of_decide_eq_true (by first | (with_reducible assumption) | assumption)
        obtain ⟨ad303, A303_10, c303_10, A303_11, c303_11, e303, hx303_0, hx303_1, hx303_2, hx303_3, hx303_4, hx303_5, hx303_6, hx303_7, hx303_8, hx303_9, hx303_10, hx303_11, hx303_12, hx303_13, hl303_10, hi303_10, hl303_11, hi303_11⟩ := zcr HR0.out x5_1 p303 q303
        cases e303
        have HR303_10 := zae.mk hi303_10
        have HC303_10 := zae.mk hl303_10
        clear hi303_10 hl303_10
        have HR303_11 := zae.mk hi303_11
        have HC303_11 := zae.mk hl303_11
        clear hi303_11 hl303_11
        replace p303 := eq_true p303
        replace q303 := eq_true q303
        have p304 : 0 ≤ (a1 : Int) := of_decide_eq_true (by first | (with_reducible assumption) | assumption)
        have q304 : a1 < (l0.length : Int) := of_decide_eq_true (by first | (with_reducible assumption) | assumption)
        obtain ⟨ad304, A304_10, c304_10, A304_11, c304_11, e304, hx304_0, hx304_1, hx304_2, hx304_3, hx304_4, hx304_5, hx304_6, hx304_7, hx304_8, hx304_9, hx304_10, hx304_11, hx304_12, hx304_13, hl304_10, hi304_10, hl304_11, hi304_11⟩ := zcr HR0.out a1 p304 q304
        obtain rfl : ad303 = ad304 := (by injection e304)
        have HR304_10 := zae.mk hi304_10
        have HC304_10 := zae.mk hl304_10
        clear hi304_10 hl304_10
        have HR304_11 := zae.mk hi304_11
        have HC304_11 := zae.mk hl304_11
        clear hi304_11 hl304_11
        replace p304 := eq_true p304
        replace q304 := eq_true q304
        go_wp2
        repeat (go_quiet (fail); try go_wp2)
        go_ret
        exact ⟨by first | rfl | (simp; done) | (simp [*]; done), by repeat (first | exact za5.refl _ | apply za5.step)⟩
       ·rw [if_neg c7] at H
        have c7b0 : (((zah l0 x5_1).f1.f0) == ((zah l0 a1).f1.f0) && (((zah l0 x5_1).f1.f1) == ((zah l0 a1).f1.f1) && ((((zah l0 x5_1).f1.f2).toList) == (((zah l0 a1).f1.f2).toList)))) = false := by simpa using c7
        (try (have c7b1 : decide (((zah l0 x5_1).f1.f0) = ((zah l0 a1).f1.f0) && (((zah l0 x5_1).f1.f1) == ((zah l0 a1).f1.f1) && ((((zah l0 x5_1).f1.f2).toList) == (((zah l0 a1).f1.f2).toList)))) = false := by simpa using c7))
        (try (have c7b2 : (((zah l0 x5_1).f1.f0) == ((zah l0 a1).f1.f0) && (((zah l0 x5_1).f1.f1) == ((zah l0 a1).f1.f1) && ((((zah l0 x5_1).f1.f2).toList) == (((zah l0 a1).f1.f2).toList)))) = false := by simpa using c7))
        (try (have c7b3 : ¬ (((zah l0 x5_1).f1.f0) = ((zah l0 a1).f1.f0) && (((zah l0 x5_1).f1.f1) == ((zah l0 a1).f1.f1) && ((((zah l0 x5_1).f1.f2).toList) == (((zah l0 a1).f1.f2).toList)))) := by simpa using c7))
        clear c7
        have H' := zae.mk H
        clear H
        have p303 : 0 ≤ (x5_1 : Int) := of_decide_eq_true (by first | (with_reducible assumption) | assumption)
        have q303 : x5_1 < (l0.length : Int) := of_decide_eq_true (by first | (with_reducible assumption) | assumption)
        obtain ⟨ad303, A303_10, c303_10, A303_11, c303_11, e303, hx303_0, hx303_1, hx303_2, hx303_3, hx303_4, hx303_5, hx303_6, hx303_7, hx303_8, hx303_9, hx303_10, hx303_11, hx303_12, hx303_13, hl303_10, hi303_10, hl303_11, hi303_11⟩ := zcr HR0.out x5_1 p303 q303
        cases e303
        have HR303_10 := zae.mk hi303_10
        have HC303_10 := zae.mk hl303_10
        clear hi303_10 hl303_10
        have HR303_11 := zae.mk hi303_11
        have HC303_11 := zae.mk hl303_11
        clear hi303_11 hl303_11
        replace p303 := eq_true p303
        replace q303 := eq_true q303
        have p304 : 0 ≤ (a1 : Int) := of_decide_eq_true (by first | (with_reducible assumption) | assumption)
        have q304 : a1 < (l0.length : Int) := of_decide_eq_true (by first | (with_reducible assumption) | assumption)
        obtain ⟨ad304, A304_10, c304_10, A304_11, c304_11, e304, hx304_0, hx304_1, hx304_2, hx304_3, hx304_4, hx304_5, hx304_6, hx304_7, hx304_8, hx304_9, hx304_10, hx304_11, hx304_12, hx304_13, hl304_10, hi304_10, hl304_11, hi304_11⟩ := zcr HR0.out a1 p304 q304
        obtain rfl : ad303 = ad304 := (by injection e304)
        have HR304_10 := zae.mk hi304_10
        have HC304_10 := zae.mk hl304_10
        clear hi304_10 hl304_10
        have HR304_11 := zae.mk hi304_11
        have HC304_11 := zae.mk hl304_11
        clear hi304_11 hl304_11
        replace p304 := eq_true p304
        replace q304 := eq_true q304
        go_wp2
        repeat (go_quiet (fail); try go_wp2)
        go_roundg k1
        case measure => have := HK1.out; omega
        case rel => exact ⟨(wrap64 (x5_1 + 1)), (by first | rfl | (simp; done) | (simp [*]; done)), H', ⟨by have := HK1.out; omega⟩, by repeat (first | exact za5.refl _ | apply za5.step)⟩
      ·rw [if_neg c6] at H
       exact absurd H (by simp)
     ·rw [if_neg c5] at H
      exact absurd H (by simp)
    ·rw [if_neg c4] at H
     exact absurd H (by simp)
   ·rw [if_neg c3] at H
    have c3b0 : decide (x5_1 < (l0.length : Int)) = false := decide_eq_false c3
    clear c3
    obtain rfl := Option.some.inj H
    go_wp2
    repeat (go_quiet (fail); try go_wp2)
    go_ret
    exact ⟨by first | rfl | (simp; done) | (simp [*]; done), by repeat (first | exact za5.refl _ | apply za5.step)⟩
end Go.Proofs.YtikmmigfdchcpaaDoor.PP
