import Derived.Test.YtikmmigfdchcpaaDoorPbQ0
import Derived.Test.YtikmmigfdchcpaaDoorPbQ902
/-
  Proved: a part of the proof of the claim's statement (text Q45 of it).
  Conditions: none of ours.
-/
namespace Go.Proofs.YtikmmigfdchcpaaDoor.PP
open Go.RowKit Go.Proofs.YtikmmigfdchcpaaDoorW.PrintWords Go.Proofs.YtikmmigfdchcpaaDoorW.PrintLast Go.Proofs.YtikmmigfdchcpaaDoorW.PrintMore
set_option linter.unusedVariables false
set_option linter.unusedSimpArgs false
attribute [local go_sem high] eqA38
def zbj.l0 : Nat → List (S47) → Int → Int → Option (Int)
 | 0, _, _, _ => none
 | k + 1, x0, x1, x5 => if x5 ≥ 0 then (if 0 ≤ x5 then (if x5 < (x0.length : Int) then (if 0 ≤ x1 then (if x1 < (x0.length : Int) then (if (((zah x0 x5).f1.f0) == ((zah x0 x1).f1.f0) && (((zah x0 x5).f1.f1) == ((zah x0 x1).f1.f1) && ((((zah x0 x5).f1.f2).toList) == (((zah x0 x1).f1.f2).toList)))) = true then (some x5) else (zbj.l0 k x0 x1 (wrap64 (x5 - 1)))) else (none)) else (none)) else (none)) else (none)) else (some (-1))
def zbj.f (k : Nat) (l0 : List (S47)) (a1 : Int) : Option (Int) := zbj.l0 k l0 a1 (wrap64 (a1 - 1))
set_option maxHeartbeats 8000000 in
set_option maxRecDepth 100000 in
theorem zbj.calls (k : Nat) (A0 : Option Addr) (c0 : Nat) (l0 : List (S47)) (a1 : Int) (r : Int) (w : World) (hr0 : Kd.C k47 w A0 l0.length l0) (hc0 : l0.length ≤ c0) (h : zbj.f k l0 a1 = some r) :
  Calls Tryd.prog 30 #[.slice A0 l0.length c0, .int .i64 a1] w fun e w' => e = .returned (.int .i64 r) ∧ za5 w w' := by
 have hu38 := Tryd.underlying38
 have HR0 := zae.mk hr0
 have HC0 := zae.mk hc0
 clear hr0 hc0
 have H : (zbj.l0 k l0 a1 (wrap64 (a1 - 1))) = some r := h
 clear h
 have H' := zae.mk H
 clear H
 go_enter Tryd.func30, Tryd.ntmps30
 go_wp2
 repeat (go_quiet (fail); try go_wp2)
 go_loopg [5] k (fun kq v5 w' => ∃ (x5_1 : Int), v5 = .int .i64 x5_1 ∧ zae (zbj.l0 kq l0 a1 x5_1 = some r) ∧ zae (kq ≤ k) ∧ za5 w w')
 case atStart => exact ⟨(wrap64 (a1 - 1)), (by first | rfl | (simp; done) | (simp [*]; done)), H', ⟨Nat.le_refl _⟩, by repeat (first | exact za5.refl _ | apply za5.step)⟩
 case round =>
  clear H'
  try clear p2
  obtain ⟨x5_1, rfl, HA, HK1, ⟨m1, rfl⟩⟩ := hrel
  cases gk with
  | zero => exact absurd HA.out (by simp [zbj.l0])
  | succ k1 =>
   have H := HA.out
   clear HA
   simp only [zbj.l0] at H
   by_cases c3 : x5_1 ≥ 0
   ·rw [if_pos c3] at H
    have c3b0 : decide (0 ≤ x5_1) = true := decide_eq_true c3
    clear c3
    by_cases c4 : 0 ≤ x5_1
    ·rw [if_pos c4] at H
     have c4b0 : decide (0 ≤ x5_1) = true := decide_eq_true c4
     clear c4
     by_cases c5 : x5_1 < (l0.length : Int)
     ·rw [if_pos c5] at H
      have c5b0 : decide (x5_1 < (l0.length : Int)) = true := decide_eq_true c5
      clear c5
      by_cases c6 : 0 ≤ a1
      ·rw [if_pos c6] at H
       have c6b0 : decide (0 ≤ a1) = true := decide_eq_true c6
       clear c6
       by_cases c7 : a1 < (l0.length : Int)
       ·rw [if_pos c7] at H
        have c7b0 : decide (a1 < (l0.length : Int)) = true := decide_eq_true c7
        clear c7
        by_cases c8 : (((zah l0 x5_1).f1.f0) == ((zah l0 a1).f1.f0) && (((zah l0 x5_1).f1.f1) == ((zah l0 a1).f1.f1) && ((((zah l0 x5_1).f1.f2).toList) == (((zah l0 a1).f1.f2).toList)))) = true
        ·rw [if_pos c8] at H
         have c8b0 : (((zah l0 x5_1).f1.f0) == ((zah l0 a1).f1.f0) && (((zah l0 x5_1).f1.f1) == ((zah l0 a1).f1.f1) && ((((zah l0 x5_1).f1.f2).toList) == (((zah l0 a1).f1.f2).toList)))) = true := c8
         (try (have c8b1 : decide (((zah l0 x5_1).f1.f0) = ((zah l0 a1).f1.f0) && (((zah l0 x5_1).f1.f1) == ((zah l0 a1).f1.f1) && ((((zah l0 x5_1).f1.f2).toList) == (((zah l0 a1).f1.f2).toList)))) = true := by simpa using c8))
         (try (have c8b2 : (((zah l0 x5_1).f1.f0) == ((zah l0 a1).f1.f0) && (((zah l0 x5_1).f1.f1) == ((zah l0 a1).f1.f1) && ((((zah l0 x5_1).f1.f2).toList) == (((zah l0 a1).f1.f2).toList)))) = true := by simpa using c8))
         clear c8
         obtain rfl := Option.some.inj H
         have p256 : 0 ≤ (x5_1 : Int) := of_decide_eq_true (by first | (with_reducible assumption) | assumption)
         have q256 : x5_1 < (l0.length : Int) := of_decide_eq_true (by first | (with_reducible assumption) | assumption)
         obtain ⟨ad256, A256_10, c256_10, A256_11, c256_11, e256, hx256_0, hx256_1, hx256_2, hx256_3, hx256_4, hx256_5, hx256_6, hx256_7, hx256_8, hx256_9, hx256_10, hx256_11, hx256_12, hx256_13, hl256_10, hi256_10, hl256_11, hi256_11⟩ := zcr HR0.out x5_1 p256 q256
         cases e256
         have HR256_10 := zae.mk hi256_10
         have HC256_10 := zae.mk hl256_10
         clear hi256_10 hl256_10
         have HR256_11 := zae.mk hi256_11
         have HC256_11 := zae.mk hl256_11
         clear hi256_11 hl256_11
         replace p256 := eq_true p256
         replace q256 := eq_true q256
         have p257 : 0 ≤ (a1 : Int) := of_decide_eq_true (by first | (with_reducible assumption) | assumption)
         have q257 : a1 < (l0.length : Int) := of_decide_eq_true (by first | (with_reducible assumption) | assumption)
         obtain ⟨ad257, A257_10, c257_10, A257_11, c257_11, e257, hx257_0, hx257_1, hx257_2, hx257_3, hx257_4, hx257_5, hx257_6, hx257_7, hx257_8, hx257_9, hx257_10, hx257_11, hx257_12, hx257_13, hl257_10, hi257_10, hl257_11, hi257_11⟩ := zcr HR0.out a1 p257 q257
         obtain rfl : ad256 = ad257 := (by injection e257)
         have HR257_10 := zae.mk hi257_10
         have HC257_10 := zae.mk hl257_10
         clear hi257_10 hl257_10
         have HR257_11 := zae.mk hi257_11
         have HC257_11 := zae.mk hl257_11
         clear hi257_11 hl257_11
         replace p257 := eq_true p257
         replace q257 := eq_true q257
         go_wp2
         repeat (go_quiet (fail); try go_wp2)
         go_ret
         exact ⟨by first | rfl | (simp; done) | (simp [*]; done), by repeat (first | exact za5.refl _ | apply za5.step)⟩
        ·rw [if_neg c8] at H
         have c8b0 : (((zah l0 x5_1).f1.f0) == ((zah l0 a1).f1.f0) && (((zah l0 x5_1).f1.f1) == ((zah l0 a1).f1.f1) && ((((zah l0 x5_1).f1.f2).toList) == (((zah l0 a1).f1.f2).toList)))) = false := by simpa using c8
         (try (have c8b1 : decide (((zah l0 x5_1).f1.f0) = ((zah l0 a1).f1.f0) && (((zah l0 x5_1).f1.f1) == ((zah l0 a1).f1.f1) && ((((zah l0 x5_1).f1.f2).toList) == (((zah l0 a1).f1.f2).toList)))) = false := by simpa using c8))
         (try (have c8b2 : (((zah l0 x5_1).f1.f0) == ((zah l0 a1).f1.f0) && (((zah l0 x5_1).f1.f1) == ((zah l0 a1).f1.f1) && ((((zah l0 x5_1).f1.f2).toList) == (((zah l0 a1).f1.f2).toList)))) = false := by simpa using c8))
         (try (have c8b3 : ¬ (((zah l0 x5_1).f1.f0) = ((zah l0 a1).f1.f0) && (((zah l0 x5_1).f1.f1) == ((zah l0 a1).f1.f1) && ((((zah l0 x5_1).f1.f2).toList) == (((zah l0 a1).f1.f2).toList)))) := by simpa using c8))
         clear c8
         have H' := zae.mk H
         clear H
         have p256 : 0 ≤ (x5_1 : Int) := of_decide_eq_true (by first | (with_reducible assumption) | assumption)
         have q256 : x5_1 < (l0.length : Int) := of_decide_eq_true (by first | (with_reducible assumption) | assumption)
         obtain ⟨ad256, A256_10, c256_10, A256_11, c256_11, e256, hx256_0, hx256_1, hx256_2, hx256_3, hx256_4, hx256_5, hx256_6, hx256_7, hx256_8, hx256_9, hx256_10, hx256_11, hx256_12, hx256_13, hl256_10, hi256_10, hl256_11, hi256_11⟩ := zcr HR0.out x5_1 p256 q256
         cases e256
         have HR256_10 := zae.mk hi256_10
         have HC256_10 := zae.mk hl256_10
         clear hi256_10 hl256_10
         have HR256_11 := zae.mk hi256_11
         have HC256_11 := zae.mk hl256_11
         clear hi256_11 hl256_11
         replace p256 := eq_true p256
         replace q256 := eq_true q256
         have p257 : 0 ≤ (a1 : Int) := of_decide_eq_true (by first | (with_reducible assumption) | assumption)
         have q257 : a1 < (l0.length : Int) := of_decide_eq_true (by first | (with_reducible assumption) | assumption)
         obtain ⟨ad257, A257_10, c257_10, A257_11, c257_11, e257, hx257_0, hx257_1, hx257_2, hx257_3, hx257_4, hx257_5, hx257_6, hx257_7, hx257_8, hx257_9, hx257_10, hx257_11, hx257_12, hx257_13, hl257_10, hi257_10, hl257_11, hi257_11⟩ := zcr HR0.out a1 p257 q257
         obtain rfl : ad256 = ad257 := (by injection e257)
         have HR257_10 := zae.mk hi257_10
         have HC257_10 := zae.mk hl257_10
         clear hi257_10 hl257_10
         have HR257_11 := zae.mk hi257_11
         have HC257_11 := zae.mk hl257_11
         clear hi257_11 hl257_11
         replace p257 := eq_true p257
         replace q257 := eq_true q257
         go_wp2
         repeat (go_quiet (fail); try go_wp2)
         go_roundg k1
         case measure => have := HK1.out; omega
         case rel => exact ⟨(wrap64 (x5_1 - 1)), (by first | rfl | (simp; done) | (simp [*]; done)), H', ⟨by have := HK1.out; omega⟩, by repeat (first | exact za5.refl _ | apply za5.step)⟩
       ·rw [if_neg c7] at H
        exact absurd H (by simp)
      ·rw [if_neg c6] at H
       exact absurd H (by simp)
     ·rw [if_neg c5] at H
      exact absurd H (by simp)
    ·rw [if_neg c4] at H
     exact absurd H (by simp)
   ·rw [if_neg c3] at H
    have c3b0 : decide (0 ≤ x5_1) = false := decide_eq_false c3
    clear c3
    obtain rfl := Option.some.inj H
    go_wp2
    repeat (go_quiet (fail); try go_wp2)
    go_ret
    exact ⟨by first | rfl | (simp; done) | (simp [*]; done), by repeat (first | exact za5.refl _ | apply za5.step)⟩
end Go.Proofs.YtikmmigfdchcpaaDoor.PP
